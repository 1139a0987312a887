/-
  No cell of these rows narrows 'for every input' (looked for: loops, veiled, ifaces, maps, wideKeys, modest, calm, conditions, laid).
  DERIVED. THE GIVEN ROWS OF THIS SEAT. 10 by the template 'for every input the law returns true; each argument reads behind the call as it read before'; 0 by the template 'total and deterministic' (their statements: YthlelhndmnkmjaaTotals.lean).
  GIVEN WITH THE SEED: the statements are not yours to turn. If you find one false, say at which input.
  Laid BY PROGRAM, IN A SANDBOX (cutbox-rows.mjs): the forced cells as the released guide's own fill.sh prints them over the translation 3e20c60a672f9a7f… (all of the seat's roots in one cut). By AI agents, Wed Nov 11 2026. No macro, syntax, notation, axiom, sorry.
-/
import Derived.Test.YthlelhndmnkmjaaChecked
import GoSem.Claim
import GoSem.ClaimJoined
import GoSem.ClaimMapViews
import Derived.JoinedTies
import Derived.KernelRfl
namespace Go.Proofs.Ythlelhndmnkmjaa
/- THE CELL 'sum', in the pinned program and in every row, IS THE sha256 OF THE DUMP (.gsa) THAT YthlelhndmnkmjaaProg.lean LOADS. Nothing in Lean hashes anything: it is a label: what it is worth is what the hold of that sum in a sandbox is worth. -/
noncomputable def Try.pinned : Pinned := { name := "ythlelhndmnkmjaa", sum := "3e20c60a672f9a7f38d92a4be08fe5754fcbdf7716493c95c02de1257a1d3121", checked := Try.checked }
namespace Rows
def none {H : Type} : Left H := { results := [], args := [] }

/-- 'tithebarnlaw14.MergeNewest': WHATEVER THE INPUT: true; the input reads as it did. -/
def mergeNewestSpec : ChangeSpec := { name := "mergeNewest", fn := fun _ => fun
  | [d] => { results := [.lit (.bool true)], args := [d] }
  | _ => none }
def mergeNewestRow : OpenClaim := { program := "ythlelhndmnkmjaa", sum := "3e20c60a672f9a7f38d92a4be08fe5754fcbdf7716493c95c02de1257a1d3121", func := "tithebarn/tithebarnlaw14.MergeNewest", spec := "mergeNewest", unfollowed := true, recurses := true, apart := false }
def MergeNewestSaid : Prop := mergeNewestRow.holds Try.pinned (OpenSpec.ofChange mergeNewestSpec)

/-- ITS FALSE NEIGHBOUR: 'it returns false'. Refute it at one input. -/
def mergeNewestWrong : ChangeSpec := { name := "mergeNewest", fn := fun _ => fun
  | [d] => { results := [.lit (.bool false)], args := [d] }
  | _ => none }
def MergeNewestWrongFalsely : Prop := mergeNewestRow.holds Try.pinned (OpenSpec.ofChange mergeNewestWrong)

/-- 'tithebarnlaw14.MergeParts': WHATEVER THE INPUT: true; the input reads as it did. -/
def mergePartsSpec : ChangeSpec := { name := "mergeParts", fn := fun _ => fun
  | [d1, d2] => { results := [.lit (.bool true)], args := [d1, d2] }
  | _ => none }
def mergePartsRow : OpenClaim := { program := "ythlelhndmnkmjaa", sum := "3e20c60a672f9a7f38d92a4be08fe5754fcbdf7716493c95c02de1257a1d3121", func := "tithebarn/tithebarnlaw14.MergeParts", spec := "mergeParts", unfollowed := true, recurses := true, apart := false }
def MergePartsSaid : Prop := mergePartsRow.holds Try.pinned (OpenSpec.ofChange mergePartsSpec)

/-- ITS FALSE NEIGHBOUR: 'it returns false'. Refute it at one input. -/
def mergePartsWrong : ChangeSpec := { name := "mergeParts", fn := fun _ => fun
  | [d1, d2] => { results := [.lit (.bool false)], args := [d1, d2] }
  | _ => none }
def MergePartsWrongFalsely : Prop := mergePartsRow.holds Try.pinned (OpenSpec.ofChange mergePartsWrong)

/-- 'tithebarnlaw14.MergeOrder': WHATEVER THE INPUT: true; the input reads as it did. -/
def mergeOrderSpec : ChangeSpec := { name := "mergeOrder", fn := fun _ => fun
  | [d] => { results := [.lit (.bool true)], args := [d] }
  | _ => none }
def mergeOrderRow : OpenClaim := { program := "ythlelhndmnkmjaa", sum := "3e20c60a672f9a7f38d92a4be08fe5754fcbdf7716493c95c02de1257a1d3121", func := "tithebarn/tithebarnlaw14.MergeOrder", spec := "mergeOrder", unfollowed := true, recurses := true, apart := false }
def MergeOrderSaid : Prop := mergeOrderRow.holds Try.pinned (OpenSpec.ofChange mergeOrderSpec)

/-- ITS FALSE NEIGHBOUR: 'it returns false'. Refute it at one input. -/
def mergeOrderWrong : ChangeSpec := { name := "mergeOrder", fn := fun _ => fun
  | [d] => { results := [.lit (.bool false)], args := [d] }
  | _ => none }
def MergeOrderWrongFalsely : Prop := mergeOrderRow.holds Try.pinned (OpenSpec.ofChange mergeOrderWrong)

/-- 'tithebarnlaw14.MergeSteps': WHATEVER THE INPUT: true; the input reads as it did. -/
def mergeStepsSpec : ChangeSpec := { name := "mergeSteps", fn := fun _ => fun
  | [d1, d2, d3] => { results := [.lit (.bool true)], args := [d1, d2, d3] }
  | _ => none }
def mergeStepsRow : OpenClaim := { program := "ythlelhndmnkmjaa", sum := "3e20c60a672f9a7f38d92a4be08fe5754fcbdf7716493c95c02de1257a1d3121", func := "tithebarn/tithebarnlaw14.MergeSteps", spec := "mergeSteps", unfollowed := true, recurses := true, apart := false }
def MergeStepsSaid : Prop := mergeStepsRow.holds Try.pinned (OpenSpec.ofChange mergeStepsSpec)

/-- ITS FALSE NEIGHBOUR: 'it returns false'. Refute it at one input. -/
def mergeStepsWrong : ChangeSpec := { name := "mergeSteps", fn := fun _ => fun
  | [d1, d2, d3] => { results := [.lit (.bool false)], args := [d1, d2, d3] }
  | _ => none }
def MergeStepsWrongFalsely : Prop := mergeStepsRow.holds Try.pinned (OpenSpec.ofChange mergeStepsWrong)

/-- 'tithebarnlaw14.MergeGone': WHATEVER THE INPUT: true; the input reads as it did. -/
def mergeGoneSpec : ChangeSpec := { name := "mergeGone", fn := fun _ => fun
  | [d] => { results := [.lit (.bool true)], args := [d] }
  | _ => none }
def mergeGoneRow : OpenClaim := { program := "ythlelhndmnkmjaa", sum := "3e20c60a672f9a7f38d92a4be08fe5754fcbdf7716493c95c02de1257a1d3121", func := "tithebarn/tithebarnlaw14.MergeGone", spec := "mergeGone", unfollowed := true, recurses := true, apart := false }
def MergeGoneSaid : Prop := mergeGoneRow.holds Try.pinned (OpenSpec.ofChange mergeGoneSpec)

/-- ITS FALSE NEIGHBOUR: 'it returns false'. Refute it at one input. -/
def mergeGoneWrong : ChangeSpec := { name := "mergeGone", fn := fun _ => fun
  | [d] => { results := [.lit (.bool false)], args := [d] }
  | _ => none }
def MergeGoneWrongFalsely : Prop := mergeGoneRow.holds Try.pinned (OpenSpec.ofChange mergeGoneWrong)

/-- 'tithebarnlaw14.MergeOne': WHATEVER THE INPUT: true; the input reads as it did. -/
def mergeOneSpec : ChangeSpec := { name := "mergeOne", fn := fun _ => fun
  | [d] => { results := [.lit (.bool true)], args := [d] }
  | _ => none }
def mergeOneRow : OpenClaim := { program := "ythlelhndmnkmjaa", sum := "3e20c60a672f9a7f38d92a4be08fe5754fcbdf7716493c95c02de1257a1d3121", func := "tithebarn/tithebarnlaw14.MergeOne", spec := "mergeOne", unfollowed := true, recurses := true, apart := false }
def MergeOneSaid : Prop := mergeOneRow.holds Try.pinned (OpenSpec.ofChange mergeOneSpec)

/-- ITS FALSE NEIGHBOUR: 'it returns false'. Refute it at one input. -/
def mergeOneWrong : ChangeSpec := { name := "mergeOne", fn := fun _ => fun
  | [d] => { results := [.lit (.bool false)], args := [d] }
  | _ => none }
def MergeOneWrongFalsely : Prop := mergeOneRow.holds Try.pinned (OpenSpec.ofChange mergeOneWrong)

/-- 'tithebarnlaw24.GroupsTop': WHATEVER THE INPUT: true; the input reads as it did. -/
def groupsTopSpec : ChangeSpec := { name := "groupsTop", fn := fun _ => fun
  | [d1, d2] => { results := [.lit (.bool true)], args := [d1, d2] }
  | _ => none }
def groupsTopRow : OpenClaim := { program := "ythlelhndmnkmjaa", sum := "3e20c60a672f9a7f38d92a4be08fe5754fcbdf7716493c95c02de1257a1d3121", func := "tithebarn/tithebarnlaw24.GroupsTop", spec := "groupsTop", unfollowed := true, recurses := true, apart := false }
def GroupsTopSaid : Prop := groupsTopRow.holds Try.pinned (OpenSpec.ofChange groupsTopSpec)

/-- ITS FALSE NEIGHBOUR: 'it returns false'. Refute it at one input. -/
def groupsTopWrong : ChangeSpec := { name := "groupsTop", fn := fun _ => fun
  | [d1, d2] => { results := [.lit (.bool false)], args := [d1, d2] }
  | _ => none }
def GroupsTopWrongFalsely : Prop := groupsTopRow.holds Try.pinned (OpenSpec.ofChange groupsTopWrong)

/-- 'tithebarnlaw24.GroupsBy': WHATEVER THE INPUT: true; the input reads as it did. -/
def groupsBySpec : ChangeSpec := { name := "groupsBy", fn := fun _ => fun
  | [d1, d2, d3] => { results := [.lit (.bool true)], args := [d1, d2, d3] }
  | _ => none }
def groupsByRow : OpenClaim := { program := "ythlelhndmnkmjaa", sum := "3e20c60a672f9a7f38d92a4be08fe5754fcbdf7716493c95c02de1257a1d3121", func := "tithebarn/tithebarnlaw24.GroupsBy", spec := "groupsBy", unfollowed := true, recurses := true, apart := false }
def GroupsBySaid : Prop := groupsByRow.holds Try.pinned (OpenSpec.ofChange groupsBySpec)

/-- ITS FALSE NEIGHBOUR: 'it returns false'. Refute it at one input. -/
def groupsByWrong : ChangeSpec := { name := "groupsBy", fn := fun _ => fun
  | [d1, d2, d3] => { results := [.lit (.bool false)], args := [d1, d2, d3] }
  | _ => none }
def GroupsByWrongFalsely : Prop := groupsByRow.holds Try.pinned (OpenSpec.ofChange groupsByWrong)

/-- 'tithebarnlaw24.GroupsTotal': WHATEVER THE INPUT: true; the input reads as it did. -/
def groupsTotalSpec : ChangeSpec := { name := "groupsTotal", fn := fun _ => fun
  | [d1, d2, d3] => { results := [.lit (.bool true)], args := [d1, d2, d3] }
  | _ => none }
def groupsTotalRow : OpenClaim := { program := "ythlelhndmnkmjaa", sum := "3e20c60a672f9a7f38d92a4be08fe5754fcbdf7716493c95c02de1257a1d3121", func := "tithebarn/tithebarnlaw24.GroupsTotal", spec := "groupsTotal", unfollowed := true, recurses := true, apart := false }
def GroupsTotalSaid : Prop := groupsTotalRow.holds Try.pinned (OpenSpec.ofChange groupsTotalSpec)

/-- ITS FALSE NEIGHBOUR: 'it returns false'. Refute it at one input. -/
def groupsTotalWrong : ChangeSpec := { name := "groupsTotal", fn := fun _ => fun
  | [d1, d2, d3] => { results := [.lit (.bool false)], args := [d1, d2, d3] }
  | _ => none }
def GroupsTotalWrongFalsely : Prop := groupsTotalRow.holds Try.pinned (OpenSpec.ofChange groupsTotalWrong)

/-- 'tithebarnlaw24.GroupsParts': WHATEVER THE INPUT: true; the input reads as it did. -/
def groupsPartsSpec : ChangeSpec := { name := "groupsParts", fn := fun _ => fun
  | [d1, d2, d3] => { results := [.lit (.bool true)], args := [d1, d2, d3] }
  | _ => none }
def groupsPartsRow : OpenClaim := { program := "ythlelhndmnkmjaa", sum := "3e20c60a672f9a7f38d92a4be08fe5754fcbdf7716493c95c02de1257a1d3121", func := "tithebarn/tithebarnlaw24.GroupsParts", spec := "groupsParts", unfollowed := true, recurses := true, apart := false }
def GroupsPartsSaid : Prop := groupsPartsRow.holds Try.pinned (OpenSpec.ofChange groupsPartsSpec)

/-- ITS FALSE NEIGHBOUR: 'it returns false'. Refute it at one input. -/
def groupsPartsWrong : ChangeSpec := { name := "groupsParts", fn := fun _ => fun
  | [d1, d2, d3] => { results := [.lit (.bool false)], args := [d1, d2, d3] }
  | _ => none }
def GroupsPartsWrongFalsely : Prop := groupsPartsRow.holds Try.pinned (OpenSpec.ofChange groupsPartsWrong)

/- THE SECOND FORM. 'bulk': how many values and letters a reading holds, each counted each time it is reached (what is shared counts as often as it is met; a slice's spare places count too). A statement '..UptoSaid' is the law's where the arguments, and the package variables that the reading takes, are together of bulk at most 1048576: NARROWER than '..Said'. Prove '..Said' where nothing that the law and all that it calls make is longer than what came in: it says more and counts as full. Else prove '..UptoSaid'. A law counts once. -/
mutual
def uptoBulk {H : Type} : DataW H → Nat
  | .lit (.string bytes) => bytes.length + 1
  | .lit _ => 1
  | .nil => 1
  | .ptr d => uptoBulk d + 1
  | .slice elems spare => uptoBulkAll elems + uptoBulkAll spare + 1
  | .agg parts => uptoBulkAll parts + 1
  | .iface _ d => uptoBulk d + 1
  | .map entries => uptoBulkEntries entries + 1
  | .held _ => 1
def uptoBulkAll {H : Type} : List (DataW H) → Nat
  | [] => 0
  | d :: r => uptoBulk d + uptoBulkAll r
def uptoBulkEntries {H : Type} : List (Lit × DataW H) → Nat
  | [] => 0
  | x :: r => uptoBulkEntry x + uptoBulkEntries r
def uptoBulkEntry {H : Type} : Lit × DataW H → Nat
  | (.string bytes, d) => bytes.length + uptoBulk d + 1
  | (_, d) => uptoBulk d + 1
 end
def uptoSmall : (H : Type) → List (DataW H) → Bool := fun _ ds => decide (uptoBulkAll ds ≤ 1048576)
def OpenSpec.upto (s : _root_.Go.ChangeSpec) : _root_.Go.OpenSpec := { _root_.Go.OpenSpec.ofChange s with cond := some uptoSmall }

/-- 'tithebarnlaw14.MergeNewest', WHERE WHAT IT READS IS OF BULK AT MOST 1048576: true; the input reads as it did. -/
def mergeNewestUptoRow : OpenClaim := { program := "ythlelhndmnkmjaa", sum := "3e20c60a672f9a7f38d92a4be08fe5754fcbdf7716493c95c02de1257a1d3121", func := "tithebarn/tithebarnlaw14.MergeNewest", spec := "mergeNewest", unfollowed := true, recurses := true, apart := false, narrowed := true }
def MergeNewestUptoSaid : Prop := mergeNewestUptoRow.holds Try.pinned (OpenSpec.upto mergeNewestSpec)

/-- 'tithebarnlaw14.MergeParts', WHERE WHAT IT READS IS OF BULK AT MOST 1048576: true; the input reads as it did. -/
def mergePartsUptoRow : OpenClaim := { program := "ythlelhndmnkmjaa", sum := "3e20c60a672f9a7f38d92a4be08fe5754fcbdf7716493c95c02de1257a1d3121", func := "tithebarn/tithebarnlaw14.MergeParts", spec := "mergeParts", unfollowed := true, recurses := true, apart := false, narrowed := true }
def MergePartsUptoSaid : Prop := mergePartsUptoRow.holds Try.pinned (OpenSpec.upto mergePartsSpec)

/-- 'tithebarnlaw14.MergeOrder', WHERE WHAT IT READS IS OF BULK AT MOST 1048576: true; the input reads as it did. -/
def mergeOrderUptoRow : OpenClaim := { program := "ythlelhndmnkmjaa", sum := "3e20c60a672f9a7f38d92a4be08fe5754fcbdf7716493c95c02de1257a1d3121", func := "tithebarn/tithebarnlaw14.MergeOrder", spec := "mergeOrder", unfollowed := true, recurses := true, apart := false, narrowed := true }
def MergeOrderUptoSaid : Prop := mergeOrderUptoRow.holds Try.pinned (OpenSpec.upto mergeOrderSpec)

/-- 'tithebarnlaw14.MergeSteps', WHERE WHAT IT READS IS OF BULK AT MOST 1048576: true; the input reads as it did. -/
def mergeStepsUptoRow : OpenClaim := { program := "ythlelhndmnkmjaa", sum := "3e20c60a672f9a7f38d92a4be08fe5754fcbdf7716493c95c02de1257a1d3121", func := "tithebarn/tithebarnlaw14.MergeSteps", spec := "mergeSteps", unfollowed := true, recurses := true, apart := false, narrowed := true }
def MergeStepsUptoSaid : Prop := mergeStepsUptoRow.holds Try.pinned (OpenSpec.upto mergeStepsSpec)

/-- 'tithebarnlaw14.MergeGone', WHERE WHAT IT READS IS OF BULK AT MOST 1048576: true; the input reads as it did. -/
def mergeGoneUptoRow : OpenClaim := { program := "ythlelhndmnkmjaa", sum := "3e20c60a672f9a7f38d92a4be08fe5754fcbdf7716493c95c02de1257a1d3121", func := "tithebarn/tithebarnlaw14.MergeGone", spec := "mergeGone", unfollowed := true, recurses := true, apart := false, narrowed := true }
def MergeGoneUptoSaid : Prop := mergeGoneUptoRow.holds Try.pinned (OpenSpec.upto mergeGoneSpec)

/-- 'tithebarnlaw14.MergeOne', WHERE WHAT IT READS IS OF BULK AT MOST 1048576: true; the input reads as it did. -/
def mergeOneUptoRow : OpenClaim := { program := "ythlelhndmnkmjaa", sum := "3e20c60a672f9a7f38d92a4be08fe5754fcbdf7716493c95c02de1257a1d3121", func := "tithebarn/tithebarnlaw14.MergeOne", spec := "mergeOne", unfollowed := true, recurses := true, apart := false, narrowed := true }
def MergeOneUptoSaid : Prop := mergeOneUptoRow.holds Try.pinned (OpenSpec.upto mergeOneSpec)

/-- 'tithebarnlaw24.GroupsTop', WHERE WHAT IT READS IS OF BULK AT MOST 1048576: true; the input reads as it did. -/
def groupsTopUptoRow : OpenClaim := { program := "ythlelhndmnkmjaa", sum := "3e20c60a672f9a7f38d92a4be08fe5754fcbdf7716493c95c02de1257a1d3121", func := "tithebarn/tithebarnlaw24.GroupsTop", spec := "groupsTop", unfollowed := true, recurses := true, apart := false, narrowed := true }
def GroupsTopUptoSaid : Prop := groupsTopUptoRow.holds Try.pinned (OpenSpec.upto groupsTopSpec)

/-- 'tithebarnlaw24.GroupsBy', WHERE WHAT IT READS IS OF BULK AT MOST 1048576: true; the input reads as it did. -/
def groupsByUptoRow : OpenClaim := { program := "ythlelhndmnkmjaa", sum := "3e20c60a672f9a7f38d92a4be08fe5754fcbdf7716493c95c02de1257a1d3121", func := "tithebarn/tithebarnlaw24.GroupsBy", spec := "groupsBy", unfollowed := true, recurses := true, apart := false, narrowed := true }
def GroupsByUptoSaid : Prop := groupsByUptoRow.holds Try.pinned (OpenSpec.upto groupsBySpec)

/-- 'tithebarnlaw24.GroupsTotal', WHERE WHAT IT READS IS OF BULK AT MOST 1048576: true; the input reads as it did. -/
def groupsTotalUptoRow : OpenClaim := { program := "ythlelhndmnkmjaa", sum := "3e20c60a672f9a7f38d92a4be08fe5754fcbdf7716493c95c02de1257a1d3121", func := "tithebarn/tithebarnlaw24.GroupsTotal", spec := "groupsTotal", unfollowed := true, recurses := true, apart := false, narrowed := true }
def GroupsTotalUptoSaid : Prop := groupsTotalUptoRow.holds Try.pinned (OpenSpec.upto groupsTotalSpec)

/-- 'tithebarnlaw24.GroupsParts', WHERE WHAT IT READS IS OF BULK AT MOST 1048576: true; the input reads as it did. -/
def groupsPartsUptoRow : OpenClaim := { program := "ythlelhndmnkmjaa", sum := "3e20c60a672f9a7f38d92a4be08fe5754fcbdf7716493c95c02de1257a1d3121", func := "tithebarn/tithebarnlaw24.GroupsParts", spec := "groupsParts", unfollowed := true, recurses := true, apart := false, narrowed := true }
def GroupsPartsUptoSaid : Prop := groupsPartsUptoRow.holds Try.pinned (OpenSpec.upto groupsPartsSpec)

end Rows
end Go.Proofs.Ythlelhndmnkmjaa
