/-
  No cell of these rows narrows 'for every input' (looked for: loops, veiled, ifaces, maps, wideKeys, modest, calm, conditions, laid).
  DERIVED. THE GIVEN ROWS OF THIS SEAT. 12 by the template 'for every input the law returns true; each argument reads behind the call as it read before'; 0 by the template 'total and deterministic' (their statements: YtknkncidlfobiaaTotals.lean).
  GIVEN WITH THE SEED: the statements are not yours to turn. If you find one false, say at which input.
  Laid BY PROGRAM, IN A SANDBOX (cutbox-rows.mjs): the forced cells as the released guide's own fill.sh prints them over the translation 20cd1f86e5e59800… (all of the seat's roots in one cut). By AI agents, Wed Nov 11 2026. No macro, syntax, notation, axiom, sorry.
-/
import Derived.Test.YtknkncidlfobiaaChecked
import GoSem.Claim
import GoSem.ClaimJoined
import GoSem.ClaimMapViews
import Derived.JoinedTies
import Derived.KernelRfl
namespace Go.Proofs.Ytknkncidlfobiaa
/- THE CELL 'sum', in the pinned program and in every row, IS THE sha256 OF THE DUMP (.gsa) THAT YtknkncidlfobiaaProg.lean LOADS. Nothing in Lean hashes anything: it is a label: what it is worth is what the hold of that sum in a sandbox is worth. -/
noncomputable def Try.pinned : Pinned := { name := "ytknkncidlfobiaa", sum := "20cd1f86e5e59800877841d71136570beb62b7ba98abfdf058571f0410a763c6", checked := Try.checked }
namespace Rows
def none {H : Type} : Left H := { results := [], args := [] }

/-- 'tithebarnlaw02.KindsCompare': WHATEVER THE INPUT: true; the input reads as it did. -/
def kindsCompareSpec : ChangeSpec := { name := "kindsCompare", fn := fun _ => fun
  | [d1, d2] => { results := [.lit (.bool true)], args := [d1, d2] }
  | _ => none }
def kindsCompareRow : OpenClaim := { program := "ytknkncidlfobiaa", sum := "20cd1f86e5e59800877841d71136570beb62b7ba98abfdf058571f0410a763c6", func := "tithebarn/tithebarnlaw02.KindsCompare", spec := "kindsCompare", unfollowed := true, recurses := true, apart := false }
def KindsCompareSaid : Prop := kindsCompareRow.holds Try.pinned (OpenSpec.ofChange kindsCompareSpec)

/-- ITS FALSE NEIGHBOUR: 'it returns false'. Refute it at one input. -/
def kindsCompareWrong : ChangeSpec := { name := "kindsCompare", fn := fun _ => fun
  | [d1, d2] => { results := [.lit (.bool false)], args := [d1, d2] }
  | _ => none }
def KindsCompareWrongFalsely : Prop := kindsCompareRow.holds Try.pinned (OpenSpec.ofChange kindsCompareWrong)

/-- 'tithebarnlaw02.KindsOrder': WHATEVER THE INPUT: true; the input reads as it did. -/
def kindsOrderSpec : ChangeSpec := { name := "kindsOrder", fn := fun _ => fun
  | [d1, d2, d3] => { results := [.lit (.bool true)], args := [d1, d2, d3] }
  | _ => none }
def kindsOrderRow : OpenClaim := { program := "ytknkncidlfobiaa", sum := "20cd1f86e5e59800877841d71136570beb62b7ba98abfdf058571f0410a763c6", func := "tithebarn/tithebarnlaw02.KindsOrder", spec := "kindsOrder", unfollowed := true, recurses := true, apart := false }
def KindsOrderSaid : Prop := kindsOrderRow.holds Try.pinned (OpenSpec.ofChange kindsOrderSpec)

/-- ITS FALSE NEIGHBOUR: 'it returns false'. Refute it at one input. -/
def kindsOrderWrong : ChangeSpec := { name := "kindsOrder", fn := fun _ => fun
  | [d1, d2, d3] => { results := [.lit (.bool false)], args := [d1, d2, d3] }
  | _ => none }
def KindsOrderWrongFalsely : Prop := kindsOrderRow.holds Try.pinned (OpenSpec.ofChange kindsOrderWrong)

/-- 'tithebarnlaw02.KindsIn': WHATEVER THE INPUT: true; the input reads as it did. -/
def kindsInSpec : ChangeSpec := { name := "kindsIn", fn := fun _ => fun
  | [d1, d2] => { results := [.lit (.bool true)], args := [d1, d2] }
  | _ => none }
def kindsInRow : OpenClaim := { program := "ytknkncidlfobiaa", sum := "20cd1f86e5e59800877841d71136570beb62b7ba98abfdf058571f0410a763c6", func := "tithebarn/tithebarnlaw02.KindsIn", spec := "kindsIn", unfollowed := true, recurses := true, apart := false }
def KindsInSaid : Prop := kindsInRow.holds Try.pinned (OpenSpec.ofChange kindsInSpec)

/-- ITS FALSE NEIGHBOUR: 'it returns false'. Refute it at one input. -/
def kindsInWrong : ChangeSpec := { name := "kindsIn", fn := fun _ => fun
  | [d1, d2] => { results := [.lit (.bool false)], args := [d1, d2] }
  | _ => none }
def KindsInWrongFalsely : Prop := kindsInRow.holds Try.pinned (OpenSpec.ofChange kindsInWrong)

/-- 'tithebarnlaw02.KindsSplit': WHATEVER THE INPUT: true; the input reads as it did. -/
def kindsSplitSpec : ChangeSpec := { name := "kindsSplit", fn := fun _ => fun
  | [d1, d2, d3] => { results := [.lit (.bool true)], args := [d1, d2, d3] }
  | _ => none }
def kindsSplitRow : OpenClaim := { program := "ytknkncidlfobiaa", sum := "20cd1f86e5e59800877841d71136570beb62b7ba98abfdf058571f0410a763c6", func := "tithebarn/tithebarnlaw02.KindsSplit", spec := "kindsSplit", unfollowed := true, recurses := true, apart := false }
def KindsSplitSaid : Prop := kindsSplitRow.holds Try.pinned (OpenSpec.ofChange kindsSplitSpec)

/-- ITS FALSE NEIGHBOUR: 'it returns false'. Refute it at one input. -/
def kindsSplitWrong : ChangeSpec := { name := "kindsSplit", fn := fun _ => fun
  | [d1, d2, d3] => { results := [.lit (.bool false)], args := [d1, d2, d3] }
  | _ => none }
def KindsSplitWrongFalsely : Prop := kindsSplitRow.holds Try.pinned (OpenSpec.ofChange kindsSplitWrong)

/-- 'tithebarnlaw02.KindsFits': WHATEVER THE INPUT: true; the input reads as it did. -/
def kindsFitsSpec : ChangeSpec := { name := "kindsFits", fn := fun _ => fun
  | [d1, d2, d3] => { results := [.lit (.bool true)], args := [d1, d2, d3] }
  | _ => none }
def kindsFitsRow : OpenClaim := { program := "ytknkncidlfobiaa", sum := "20cd1f86e5e59800877841d71136570beb62b7ba98abfdf058571f0410a763c6", func := "tithebarn/tithebarnlaw02.KindsFits", spec := "kindsFits", unfollowed := true, recurses := true, apart := false }
def KindsFitsSaid : Prop := kindsFitsRow.holds Try.pinned (OpenSpec.ofChange kindsFitsSpec)

/-- ITS FALSE NEIGHBOUR: 'it returns false'. Refute it at one input. -/
def kindsFitsWrong : ChangeSpec := { name := "kindsFits", fn := fun _ => fun
  | [d1, d2, d3] => { results := [.lit (.bool false)], args := [d1, d2, d3] }
  | _ => none }
def KindsFitsWrongFalsely : Prop := kindsFitsRow.holds Try.pinned (OpenSpec.ofChange kindsFitsWrong)

/-- 'tithebarnlaw02.KindsCols': WHATEVER THE INPUT: true; the input reads as it did. -/
def kindsColsSpec : ChangeSpec := { name := "kindsCols", fn := fun _ => fun
  | [d1, d2] => { results := [.lit (.bool true)], args := [d1, d2] }
  | _ => none }
def kindsColsRow : OpenClaim := { program := "ytknkncidlfobiaa", sum := "20cd1f86e5e59800877841d71136570beb62b7ba98abfdf058571f0410a763c6", func := "tithebarn/tithebarnlaw02.KindsCols", spec := "kindsCols", unfollowed := true, recurses := true, apart := false }
def KindsColsSaid : Prop := kindsColsRow.holds Try.pinned (OpenSpec.ofChange kindsColsSpec)

/-- ITS FALSE NEIGHBOUR: 'it returns false'. Refute it at one input. -/
def kindsColsWrong : ChangeSpec := { name := "kindsCols", fn := fun _ => fun
  | [d1, d2] => { results := [.lit (.bool false)], args := [d1, d2] }
  | _ => none }
def KindsColsWrongFalsely : Prop := kindsColsRow.holds Try.pinned (OpenSpec.ofChange kindsColsWrong)

/-- 'tithebarnlaw02.KindsSame': WHATEVER THE INPUT: true; the input reads as it did. -/
def kindsSameSpec : ChangeSpec := { name := "kindsSame", fn := fun _ => fun
  | [d1, d2] => { results := [.lit (.bool true)], args := [d1, d2] }
  | _ => none }
def kindsSameRow : OpenClaim := { program := "ytknkncidlfobiaa", sum := "20cd1f86e5e59800877841d71136570beb62b7ba98abfdf058571f0410a763c6", func := "tithebarn/tithebarnlaw02.KindsSame", spec := "kindsSame", unfollowed := true, recurses := true, apart := false }
def KindsSameSaid : Prop := kindsSameRow.holds Try.pinned (OpenSpec.ofChange kindsSameSpec)

/-- ITS FALSE NEIGHBOUR: 'it returns false'. Refute it at one input. -/
def kindsSameWrong : ChangeSpec := { name := "kindsSame", fn := fun _ => fun
  | [d1, d2] => { results := [.lit (.bool false)], args := [d1, d2] }
  | _ => none }
def KindsSameWrongFalsely : Prop := kindsSameRow.holds Try.pinned (OpenSpec.ofChange kindsSameWrong)

/-- 'tithebarnlaw18.SumsProject': WHATEVER THE INPUT: true; the input reads as it did. -/
def sumsProjectSpec : ChangeSpec := { name := "sumsProject", fn := fun _ => fun
  | [d1, d2] => { results := [.lit (.bool true)], args := [d1, d2] }
  | _ => none }
def sumsProjectRow : OpenClaim := { program := "ytknkncidlfobiaa", sum := "20cd1f86e5e59800877841d71136570beb62b7ba98abfdf058571f0410a763c6", func := "tithebarn/tithebarnlaw18.SumsProject", spec := "sumsProject", unfollowed := true, recurses := true, apart := false }
def SumsProjectSaid : Prop := sumsProjectRow.holds Try.pinned (OpenSpec.ofChange sumsProjectSpec)

/-- ITS FALSE NEIGHBOUR: 'it returns false'. Refute it at one input. -/
def sumsProjectWrong : ChangeSpec := { name := "sumsProject", fn := fun _ => fun
  | [d1, d2] => { results := [.lit (.bool false)], args := [d1, d2] }
  | _ => none }
def SumsProjectWrongFalsely : Prop := sumsProjectRow.holds Try.pinned (OpenSpec.ofChange sumsProjectWrong)

/-- 'tithebarnlaw18.SumsJoin': WHATEVER THE INPUT: true; the input reads as it did. -/
def sumsJoinSpec : ChangeSpec := { name := "sumsJoin", fn := fun _ => fun
  | [d1, d2, d3] => { results := [.lit (.bool true)], args := [d1, d2, d3] }
  | _ => none }
def sumsJoinRow : OpenClaim := { program := "ytknkncidlfobiaa", sum := "20cd1f86e5e59800877841d71136570beb62b7ba98abfdf058571f0410a763c6", func := "tithebarn/tithebarnlaw18.SumsJoin", spec := "sumsJoin", unfollowed := true, recurses := true, apart := false }
def SumsJoinSaid : Prop := sumsJoinRow.holds Try.pinned (OpenSpec.ofChange sumsJoinSpec)

/-- ITS FALSE NEIGHBOUR: 'it returns false'. Refute it at one input. -/
def sumsJoinWrong : ChangeSpec := { name := "sumsJoin", fn := fun _ => fun
  | [d1, d2, d3] => { results := [.lit (.bool false)], args := [d1, d2, d3] }
  | _ => none }
def SumsJoinWrongFalsely : Prop := sumsJoinRow.holds Try.pinned (OpenSpec.ofChange sumsJoinWrong)

/-- 'tithebarnlaw18.SumsOrder': WHATEVER THE INPUT: true; the input reads as it did. -/
def sumsOrderSpec : ChangeSpec := { name := "sumsOrder", fn := fun _ => fun
  | [d1, d2, d3] => { results := [.lit (.bool true)], args := [d1, d2, d3] }
  | _ => none }
def sumsOrderRow : OpenClaim := { program := "ytknkncidlfobiaa", sum := "20cd1f86e5e59800877841d71136570beb62b7ba98abfdf058571f0410a763c6", func := "tithebarn/tithebarnlaw18.SumsOrder", spec := "sumsOrder", unfollowed := true, recurses := true, apart := false }
def SumsOrderSaid : Prop := sumsOrderRow.holds Try.pinned (OpenSpec.ofChange sumsOrderSpec)

/-- ITS FALSE NEIGHBOUR: 'it returns false'. Refute it at one input. -/
def sumsOrderWrong : ChangeSpec := { name := "sumsOrder", fn := fun _ => fun
  | [d1, d2, d3] => { results := [.lit (.bool false)], args := [d1, d2, d3] }
  | _ => none }
def SumsOrderWrongFalsely : Prop := sumsOrderRow.holds Try.pinned (OpenSpec.ofChange sumsOrderWrong)

/-- 'tithebarnlaw18.SumsBounds': WHATEVER THE INPUT: true; the input reads as it did. -/
def sumsBoundsSpec : ChangeSpec := { name := "sumsBounds", fn := fun _ => fun
  | [d1, d2] => { results := [.lit (.bool true)], args := [d1, d2] }
  | _ => none }
def sumsBoundsRow : OpenClaim := { program := "ytknkncidlfobiaa", sum := "20cd1f86e5e59800877841d71136570beb62b7ba98abfdf058571f0410a763c6", func := "tithebarn/tithebarnlaw18.SumsBounds", spec := "sumsBounds", unfollowed := true, recurses := true, apart := false }
def SumsBoundsSaid : Prop := sumsBoundsRow.holds Try.pinned (OpenSpec.ofChange sumsBoundsSpec)

/-- ITS FALSE NEIGHBOUR: 'it returns false'. Refute it at one input. -/
def sumsBoundsWrong : ChangeSpec := { name := "sumsBounds", fn := fun _ => fun
  | [d1, d2] => { results := [.lit (.bool false)], args := [d1, d2] }
  | _ => none }
def SumsBoundsWrongFalsely : Prop := sumsBoundsRow.holds Try.pinned (OpenSpec.ofChange sumsBoundsWrong)

/-- 'tithebarnlaw18.SumsShift': WHATEVER THE INPUT: true; the input reads as it did. -/
def sumsShiftSpec : ChangeSpec := { name := "sumsShift", fn := fun _ => fun
  | [d1, d2, d3] => { results := [.lit (.bool true)], args := [d1, d2, d3] }
  | _ => none }
def sumsShiftRow : OpenClaim := { program := "ytknkncidlfobiaa", sum := "20cd1f86e5e59800877841d71136570beb62b7ba98abfdf058571f0410a763c6", func := "tithebarn/tithebarnlaw18.SumsShift", spec := "sumsShift", unfollowed := true, recurses := true, apart := false }
def SumsShiftSaid : Prop := sumsShiftRow.holds Try.pinned (OpenSpec.ofChange sumsShiftSpec)

/-- ITS FALSE NEIGHBOUR: 'it returns false'. Refute it at one input. -/
def sumsShiftWrong : ChangeSpec := { name := "sumsShift", fn := fun _ => fun
  | [d1, d2, d3] => { results := [.lit (.bool false)], args := [d1, d2, d3] }
  | _ => none }
def SumsShiftWrongFalsely : Prop := sumsShiftRow.holds Try.pinned (OpenSpec.ofChange sumsShiftWrong)

/- THE SECOND FORM. 'bulk': how many values and letters a reading holds, each counted each time it is reached (what is shared counts as often as it is met; a slice's spare places count too). A statement '..UptoSaid' is the law's where the arguments, and the package variables that the reading takes, are together of bulk at most 1048576: NARROWER than '..Said'. Prove '..Said' where nothing that the law and all that it calls make is longer than what came in: it says more and counts as full. Else prove '..UptoSaid'. A law counts once. -/
mutual
def uptoBulk {H : Type} : DataW H → Nat
  | .lit (.string bytes) => bytes.length + 1
  | .lit _ => 1
  | .nil => 1
  | .ptr d => uptoBulk d + 1
  | .slice elems spare => uptoBulkAll elems + uptoBulkAll spare + 1
  | .agg parts => uptoBulkAll parts + 1
  | .iface _ d => uptoBulk d + 1
  | .map entries => uptoBulkEntries entries + 1
  | .held _ => 1
def uptoBulkAll {H : Type} : List (DataW H) → Nat
  | [] => 0
  | d :: r => uptoBulk d + uptoBulkAll r
def uptoBulkEntries {H : Type} : List (Lit × DataW H) → Nat
  | [] => 0
  | x :: r => uptoBulkEntry x + uptoBulkEntries r
def uptoBulkEntry {H : Type} : Lit × DataW H → Nat
  | (.string bytes, d) => bytes.length + uptoBulk d + 1
  | (_, d) => uptoBulk d + 1
 end
def uptoSmall : (H : Type) → List (DataW H) → Bool := fun _ ds => decide (uptoBulkAll ds ≤ 1048576)
def OpenSpec.upto (s : _root_.Go.ChangeSpec) : _root_.Go.OpenSpec := { _root_.Go.OpenSpec.ofChange s with cond := some uptoSmall }

/-- 'tithebarnlaw02.KindsCompare', WHERE WHAT IT READS IS OF BULK AT MOST 1048576: true; the input reads as it did. -/
def kindsCompareUptoRow : OpenClaim := { program := "ytknkncidlfobiaa", sum := "20cd1f86e5e59800877841d71136570beb62b7ba98abfdf058571f0410a763c6", func := "tithebarn/tithebarnlaw02.KindsCompare", spec := "kindsCompare", unfollowed := true, recurses := true, apart := false, narrowed := true }
def KindsCompareUptoSaid : Prop := kindsCompareUptoRow.holds Try.pinned (OpenSpec.upto kindsCompareSpec)

/-- 'tithebarnlaw02.KindsOrder', WHERE WHAT IT READS IS OF BULK AT MOST 1048576: true; the input reads as it did. -/
def kindsOrderUptoRow : OpenClaim := { program := "ytknkncidlfobiaa", sum := "20cd1f86e5e59800877841d71136570beb62b7ba98abfdf058571f0410a763c6", func := "tithebarn/tithebarnlaw02.KindsOrder", spec := "kindsOrder", unfollowed := true, recurses := true, apart := false, narrowed := true }
def KindsOrderUptoSaid : Prop := kindsOrderUptoRow.holds Try.pinned (OpenSpec.upto kindsOrderSpec)

/-- 'tithebarnlaw02.KindsIn', WHERE WHAT IT READS IS OF BULK AT MOST 1048576: true; the input reads as it did. -/
def kindsInUptoRow : OpenClaim := { program := "ytknkncidlfobiaa", sum := "20cd1f86e5e59800877841d71136570beb62b7ba98abfdf058571f0410a763c6", func := "tithebarn/tithebarnlaw02.KindsIn", spec := "kindsIn", unfollowed := true, recurses := true, apart := false, narrowed := true }
def KindsInUptoSaid : Prop := kindsInUptoRow.holds Try.pinned (OpenSpec.upto kindsInSpec)

/-- 'tithebarnlaw02.KindsSplit', WHERE WHAT IT READS IS OF BULK AT MOST 1048576: true; the input reads as it did. -/
def kindsSplitUptoRow : OpenClaim := { program := "ytknkncidlfobiaa", sum := "20cd1f86e5e59800877841d71136570beb62b7ba98abfdf058571f0410a763c6", func := "tithebarn/tithebarnlaw02.KindsSplit", spec := "kindsSplit", unfollowed := true, recurses := true, apart := false, narrowed := true }
def KindsSplitUptoSaid : Prop := kindsSplitUptoRow.holds Try.pinned (OpenSpec.upto kindsSplitSpec)

/-- 'tithebarnlaw02.KindsFits', WHERE WHAT IT READS IS OF BULK AT MOST 1048576: true; the input reads as it did. -/
def kindsFitsUptoRow : OpenClaim := { program := "ytknkncidlfobiaa", sum := "20cd1f86e5e59800877841d71136570beb62b7ba98abfdf058571f0410a763c6", func := "tithebarn/tithebarnlaw02.KindsFits", spec := "kindsFits", unfollowed := true, recurses := true, apart := false, narrowed := true }
def KindsFitsUptoSaid : Prop := kindsFitsUptoRow.holds Try.pinned (OpenSpec.upto kindsFitsSpec)

/-- 'tithebarnlaw02.KindsCols', WHERE WHAT IT READS IS OF BULK AT MOST 1048576: true; the input reads as it did. -/
def kindsColsUptoRow : OpenClaim := { program := "ytknkncidlfobiaa", sum := "20cd1f86e5e59800877841d71136570beb62b7ba98abfdf058571f0410a763c6", func := "tithebarn/tithebarnlaw02.KindsCols", spec := "kindsCols", unfollowed := true, recurses := true, apart := false, narrowed := true }
def KindsColsUptoSaid : Prop := kindsColsUptoRow.holds Try.pinned (OpenSpec.upto kindsColsSpec)

/-- 'tithebarnlaw02.KindsSame', WHERE WHAT IT READS IS OF BULK AT MOST 1048576: true; the input reads as it did. -/
def kindsSameUptoRow : OpenClaim := { program := "ytknkncidlfobiaa", sum := "20cd1f86e5e59800877841d71136570beb62b7ba98abfdf058571f0410a763c6", func := "tithebarn/tithebarnlaw02.KindsSame", spec := "kindsSame", unfollowed := true, recurses := true, apart := false, narrowed := true }
def KindsSameUptoSaid : Prop := kindsSameUptoRow.holds Try.pinned (OpenSpec.upto kindsSameSpec)

/-- 'tithebarnlaw18.SumsProject', WHERE WHAT IT READS IS OF BULK AT MOST 1048576: true; the input reads as it did. -/
def sumsProjectUptoRow : OpenClaim := { program := "ytknkncidlfobiaa", sum := "20cd1f86e5e59800877841d71136570beb62b7ba98abfdf058571f0410a763c6", func := "tithebarn/tithebarnlaw18.SumsProject", spec := "sumsProject", unfollowed := true, recurses := true, apart := false, narrowed := true }
def SumsProjectUptoSaid : Prop := sumsProjectUptoRow.holds Try.pinned (OpenSpec.upto sumsProjectSpec)

/-- 'tithebarnlaw18.SumsJoin', WHERE WHAT IT READS IS OF BULK AT MOST 1048576: true; the input reads as it did. -/
def sumsJoinUptoRow : OpenClaim := { program := "ytknkncidlfobiaa", sum := "20cd1f86e5e59800877841d71136570beb62b7ba98abfdf058571f0410a763c6", func := "tithebarn/tithebarnlaw18.SumsJoin", spec := "sumsJoin", unfollowed := true, recurses := true, apart := false, narrowed := true }
def SumsJoinUptoSaid : Prop := sumsJoinUptoRow.holds Try.pinned (OpenSpec.upto sumsJoinSpec)

/-- 'tithebarnlaw18.SumsOrder', WHERE WHAT IT READS IS OF BULK AT MOST 1048576: true; the input reads as it did. -/
def sumsOrderUptoRow : OpenClaim := { program := "ytknkncidlfobiaa", sum := "20cd1f86e5e59800877841d71136570beb62b7ba98abfdf058571f0410a763c6", func := "tithebarn/tithebarnlaw18.SumsOrder", spec := "sumsOrder", unfollowed := true, recurses := true, apart := false, narrowed := true }
def SumsOrderUptoSaid : Prop := sumsOrderUptoRow.holds Try.pinned (OpenSpec.upto sumsOrderSpec)

/-- 'tithebarnlaw18.SumsBounds', WHERE WHAT IT READS IS OF BULK AT MOST 1048576: true; the input reads as it did. -/
def sumsBoundsUptoRow : OpenClaim := { program := "ytknkncidlfobiaa", sum := "20cd1f86e5e59800877841d71136570beb62b7ba98abfdf058571f0410a763c6", func := "tithebarn/tithebarnlaw18.SumsBounds", spec := "sumsBounds", unfollowed := true, recurses := true, apart := false, narrowed := true }
def SumsBoundsUptoSaid : Prop := sumsBoundsUptoRow.holds Try.pinned (OpenSpec.upto sumsBoundsSpec)

/-- 'tithebarnlaw18.SumsShift', WHERE WHAT IT READS IS OF BULK AT MOST 1048576: true; the input reads as it did. -/
def sumsShiftUptoRow : OpenClaim := { program := "ytknkncidlfobiaa", sum := "20cd1f86e5e59800877841d71136570beb62b7ba98abfdf058571f0410a763c6", func := "tithebarn/tithebarnlaw18.SumsShift", spec := "sumsShift", unfollowed := true, recurses := true, apart := false, narrowed := true }
def SumsShiftUptoSaid : Prop := sumsShiftUptoRow.holds Try.pinned (OpenSpec.upto sumsShiftSpec)

end Rows
end Go.Proofs.Ytknkncidlfobiaa
