/-
  No cell of these rows narrows 'for every input' (looked for: loops, veiled, ifaces, maps, wideKeys, modest, calm, conditions, laid).
  DERIVED. THE GIVEN ROWS OF THIS SEAT. 11 by the template 'for every input the law returns true; each argument reads behind the call as it read before'; 0 by the template 'total and deterministic' (their statements: YtnfliommpdjlkaaTotals.lean).
  GIVEN WITH THE SEED: the statements are not yours to turn. If you find one false, say at which input.
  Laid BY PROGRAM, IN A SANDBOX (cutbox-rows.mjs): the forced cells as the released guide's own fill.sh prints them over the translation 610dd0b234b98f3f… (all of the seat's roots in one cut). By AI agents, Wed Nov 11 2026. No macro, syntax, notation, axiom, sorry.
-/
import Derived.Test.YtnfliommpdjlkaaChecked
import GoSem.Claim
import GoSem.ClaimJoined
import GoSem.ClaimMapViews
import Derived.JoinedTies
import Derived.KernelRfl
namespace Go.Proofs.Ytnfliommpdjlkaa
/- THE CELL 'sum', in the pinned program and in every row, IS THE sha256 OF THE DUMP (.gsa) THAT YtnfliommpdjlkaaProg.lean LOADS. Nothing in Lean hashes anything: it is a label: what it is worth is what the hold of that sum in a sandbox is worth. -/
noncomputable def Try.pinned : Pinned := { name := "ytnfliommpdjlkaa", sum := "610dd0b234b98f3fd3b0c2f47a45fdc418b9461a44806ba5fa62f53fc9e296b6", checked := Try.checked }
namespace Rows
def none {H : Type} : Left H := { results := [], args := [] }

/-- 'tithebarnlaw10.SkipOwn': WHATEVER THE INPUT: true; the input reads as it did. -/
def skipOwnSpec : ChangeSpec := { name := "skipOwn", fn := fun _ => fun
  | [d1, d2] => { results := [.lit (.bool true)], args := [d1, d2] }
  | _ => none }
def skipOwnRow : OpenClaim := { program := "ytnfliommpdjlkaa", sum := "610dd0b234b98f3fd3b0c2f47a45fdc418b9461a44806ba5fa62f53fc9e296b6", func := "tithebarn/tithebarnlaw10.SkipOwn", spec := "skipOwn", apart := false }
def SkipOwnSaid : Prop := skipOwnRow.holds Try.pinned (OpenSpec.ofChange skipOwnSpec)

/-- ITS FALSE NEIGHBOUR: 'it returns false'. Refute it at one input. -/
def skipOwnWrong : ChangeSpec := { name := "skipOwn", fn := fun _ => fun
  | [d1, d2] => { results := [.lit (.bool false)], args := [d1, d2] }
  | _ => none }
def SkipOwnWrongFalsely : Prop := skipOwnRow.holds Try.pinned (OpenSpec.ofChange skipOwnWrong)

/-- 'tithebarnlaw11.ZoneHolds': WHATEVER THE INPUT: true; the input reads as it did. -/
def zoneHoldsSpec : ChangeSpec := { name := "zoneHolds", fn := fun _ => fun
  | [d1, d2] => { results := [.lit (.bool true)], args := [d1, d2] }
  | _ => none }
def zoneHoldsRow : OpenClaim := { program := "ytnfliommpdjlkaa", sum := "610dd0b234b98f3fd3b0c2f47a45fdc418b9461a44806ba5fa62f53fc9e296b6", func := "tithebarn/tithebarnlaw11.ZoneHolds", spec := "zoneHolds", apart := false }
def ZoneHoldsSaid : Prop := zoneHoldsRow.holds Try.pinned (OpenSpec.ofChange zoneHoldsSpec)

/-- ITS FALSE NEIGHBOUR: 'it returns false'. Refute it at one input. -/
def zoneHoldsWrong : ChangeSpec := { name := "zoneHolds", fn := fun _ => fun
  | [d1, d2] => { results := [.lit (.bool false)], args := [d1, d2] }
  | _ => none }
def ZoneHoldsWrongFalsely : Prop := zoneHoldsRow.holds Try.pinned (OpenSpec.ofChange zoneHoldsWrong)

/-- 'tithebarnlaw11.ZoneOf': WHATEVER THE INPUT: true; the input reads as it did. -/
def zoneOfSpec : ChangeSpec := { name := "zoneOf", fn := fun _ => fun
  | [d] => { results := [.lit (.bool true)], args := [d] }
  | _ => none }
def zoneOfRow : OpenClaim := { program := "ytnfliommpdjlkaa", sum := "610dd0b234b98f3fd3b0c2f47a45fdc418b9461a44806ba5fa62f53fc9e296b6", func := "tithebarn/tithebarnlaw11.ZoneOf", spec := "zoneOf", apart := false }
def ZoneOfSaid : Prop := zoneOfRow.holds Try.pinned (OpenSpec.ofChange zoneOfSpec)

/-- ITS FALSE NEIGHBOUR: 'it returns false'. Refute it at one input. -/
def zoneOfWrong : ChangeSpec := { name := "zoneOf", fn := fun _ => fun
  | [d] => { results := [.lit (.bool false)], args := [d] }
  | _ => none }
def ZoneOfWrongFalsely : Prop := zoneOfRow.holds Try.pinned (OpenSpec.ofChange zoneOfWrong)

/-- 'tithebarnlaw11.ZoneSafe': WHATEVER THE INPUT: true; the input reads as it did. -/
def zoneSafeSpec : ChangeSpec := { name := "zoneSafe", fn := fun _ => fun
  | [d1, d2] => { results := [.lit (.bool true)], args := [d1, d2] }
  | _ => none }
def zoneSafeRow : OpenClaim := { program := "ytnfliommpdjlkaa", sum := "610dd0b234b98f3fd3b0c2f47a45fdc418b9461a44806ba5fa62f53fc9e296b6", func := "tithebarn/tithebarnlaw11.ZoneSafe", spec := "zoneSafe", apart := false }
def ZoneSafeSaid : Prop := zoneSafeRow.holds Try.pinned (OpenSpec.ofChange zoneSafeSpec)

/-- ITS FALSE NEIGHBOUR: 'it returns false'. Refute it at one input. -/
def zoneSafeWrong : ChangeSpec := { name := "zoneSafe", fn := fun _ => fun
  | [d1, d2] => { results := [.lit (.bool false)], args := [d1, d2] }
  | _ => none }
def ZoneSafeWrongFalsely : Prop := zoneSafeRow.holds Try.pinned (OpenSpec.ofChange zoneSafeWrong)

/-- 'tithebarnlaw11.ZoneJoin': WHATEVER THE INPUT: true; the input reads as it did. -/
def zoneJoinSpec : ChangeSpec := { name := "zoneJoin", fn := fun _ => fun
  | [d1, d2] => { results := [.lit (.bool true)], args := [d1, d2] }
  | _ => none }
def zoneJoinRow : OpenClaim := { program := "ytnfliommpdjlkaa", sum := "610dd0b234b98f3fd3b0c2f47a45fdc418b9461a44806ba5fa62f53fc9e296b6", func := "tithebarn/tithebarnlaw11.ZoneJoin", spec := "zoneJoin", apart := false }
def ZoneJoinSaid : Prop := zoneJoinRow.holds Try.pinned (OpenSpec.ofChange zoneJoinSpec)

/-- ITS FALSE NEIGHBOUR: 'it returns false'. Refute it at one input. -/
def zoneJoinWrong : ChangeSpec := { name := "zoneJoin", fn := fun _ => fun
  | [d1, d2] => { results := [.lit (.bool false)], args := [d1, d2] }
  | _ => none }
def ZoneJoinWrongFalsely : Prop := zoneJoinRow.holds Try.pinned (OpenSpec.ofChange zoneJoinWrong)

/-- 'tithebarnlaw11.ZoneParts': WHATEVER THE INPUT: true; the input reads as it did. -/
def zonePartsSpec : ChangeSpec := { name := "zoneParts", fn := fun _ => fun
  | [d1, d2] => { results := [.lit (.bool true)], args := [d1, d2] }
  | _ => none }
def zonePartsRow : OpenClaim := { program := "ytnfliommpdjlkaa", sum := "610dd0b234b98f3fd3b0c2f47a45fdc418b9461a44806ba5fa62f53fc9e296b6", func := "tithebarn/tithebarnlaw11.ZoneParts", spec := "zoneParts", apart := false }
def ZonePartsSaid : Prop := zonePartsRow.holds Try.pinned (OpenSpec.ofChange zonePartsSpec)

/-- ITS FALSE NEIGHBOUR: 'it returns false'. Refute it at one input. -/
def zonePartsWrong : ChangeSpec := { name := "zoneParts", fn := fun _ => fun
  | [d1, d2] => { results := [.lit (.bool false)], args := [d1, d2] }
  | _ => none }
def ZonePartsWrongFalsely : Prop := zonePartsRow.holds Try.pinned (OpenSpec.ofChange zonePartsWrong)

/-- 'tithebarnlaw10.SkipPlays': WHATEVER THE INPUT: true; the input reads as it did. -/
def skipPlaysSpec : ChangeSpec := { name := "skipPlays", fn := fun _ => fun
  | [d1, d2, d3] => { results := [.lit (.bool true)], args := [d1, d2, d3] }
  | _ => none }
def skipPlaysRow : OpenClaim := { program := "ytnfliommpdjlkaa", sum := "610dd0b234b98f3fd3b0c2f47a45fdc418b9461a44806ba5fa62f53fc9e296b6", func := "tithebarn/tithebarnlaw10.SkipPlays", spec := "skipPlays", unfollowed := true, recurses := true, apart := false }
def SkipPlaysSaid : Prop := skipPlaysRow.holds Try.pinned (OpenSpec.ofChange skipPlaysSpec)

/-- ITS FALSE NEIGHBOUR: 'it returns false'. Refute it at one input. -/
def skipPlaysWrong : ChangeSpec := { name := "skipPlays", fn := fun _ => fun
  | [d1, d2, d3] => { results := [.lit (.bool false)], args := [d1, d2, d3] }
  | _ => none }
def SkipPlaysWrongFalsely : Prop := skipPlaysRow.holds Try.pinned (OpenSpec.ofChange skipPlaysWrong)

/-- 'tithebarnlaw10.SkipFrom': WHATEVER THE INPUT: true; the input reads as it did. -/
def skipFromSpec : ChangeSpec := { name := "skipFrom", fn := fun _ => fun
  | [d1, d2, d3] => { results := [.lit (.bool true)], args := [d1, d2, d3] }
  | _ => none }
def skipFromRow : OpenClaim := { program := "ytnfliommpdjlkaa", sum := "610dd0b234b98f3fd3b0c2f47a45fdc418b9461a44806ba5fa62f53fc9e296b6", func := "tithebarn/tithebarnlaw10.SkipFrom", spec := "skipFrom", unfollowed := true, recurses := true, apart := false }
def SkipFromSaid : Prop := skipFromRow.holds Try.pinned (OpenSpec.ofChange skipFromSpec)

/-- ITS FALSE NEIGHBOUR: 'it returns false'. Refute it at one input. -/
def skipFromWrong : ChangeSpec := { name := "skipFrom", fn := fun _ => fun
  | [d1, d2, d3] => { results := [.lit (.bool false)], args := [d1, d2, d3] }
  | _ => none }
def SkipFromWrongFalsely : Prop := skipFromRow.holds Try.pinned (OpenSpec.ofChange skipFromWrong)

/-- 'tithebarnlaw10.SkipOrder': WHATEVER THE INPUT: true; the input reads as it did. -/
def skipOrderSpec : ChangeSpec := { name := "skipOrder", fn := fun _ => fun
  | [d1, d2] => { results := [.lit (.bool true)], args := [d1, d2] }
  | _ => none }
def skipOrderRow : OpenClaim := { program := "ytnfliommpdjlkaa", sum := "610dd0b234b98f3fd3b0c2f47a45fdc418b9461a44806ba5fa62f53fc9e296b6", func := "tithebarn/tithebarnlaw10.SkipOrder", spec := "skipOrder", unfollowed := true, recurses := true, apart := false }
def SkipOrderSaid : Prop := skipOrderRow.holds Try.pinned (OpenSpec.ofChange skipOrderSpec)

/-- ITS FALSE NEIGHBOUR: 'it returns false'. Refute it at one input. -/
def skipOrderWrong : ChangeSpec := { name := "skipOrder", fn := fun _ => fun
  | [d1, d2] => { results := [.lit (.bool false)], args := [d1, d2] }
  | _ => none }
def SkipOrderWrongFalsely : Prop := skipOrderRow.holds Try.pinned (OpenSpec.ofChange skipOrderWrong)

/-- 'tithebarnlaw10.SkipSeed': WHATEVER THE INPUT: true; the input reads as it did. -/
def skipSeedSpec : ChangeSpec := { name := "skipSeed", fn := fun _ => fun
  | [d1, d2, d3] => { results := [.lit (.bool true)], args := [d1, d2, d3] }
  | _ => none }
def skipSeedRow : OpenClaim := { program := "ytnfliommpdjlkaa", sum := "610dd0b234b98f3fd3b0c2f47a45fdc418b9461a44806ba5fa62f53fc9e296b6", func := "tithebarn/tithebarnlaw10.SkipSeed", spec := "skipSeed", unfollowed := true, recurses := true, apart := false }
def SkipSeedSaid : Prop := skipSeedRow.holds Try.pinned (OpenSpec.ofChange skipSeedSpec)

/-- ITS FALSE NEIGHBOUR: 'it returns false'. Refute it at one input. -/
def skipSeedWrong : ChangeSpec := { name := "skipSeed", fn := fun _ => fun
  | [d1, d2, d3] => { results := [.lit (.bool false)], args := [d1, d2, d3] }
  | _ => none }
def SkipSeedWrongFalsely : Prop := skipSeedRow.holds Try.pinned (OpenSpec.ofChange skipSeedWrong)

/-- 'tithebarnlaw10.SkipNil': WHATEVER THE INPUT: true; the input reads as it did. -/
def skipNilSpec : ChangeSpec := { name := "skipNil", fn := fun _ => fun
  | [d1, d2] => { results := [.lit (.bool true)], args := [d1, d2] }
  | _ => none }
def skipNilRow : OpenClaim := { program := "ytnfliommpdjlkaa", sum := "610dd0b234b98f3fd3b0c2f47a45fdc418b9461a44806ba5fa62f53fc9e296b6", func := "tithebarn/tithebarnlaw10.SkipNil", spec := "skipNil", unfollowed := true, recurses := true, apart := false }
def SkipNilSaid : Prop := skipNilRow.holds Try.pinned (OpenSpec.ofChange skipNilSpec)

/-- ITS FALSE NEIGHBOUR: 'it returns false'. Refute it at one input. -/
def skipNilWrong : ChangeSpec := { name := "skipNil", fn := fun _ => fun
  | [d1, d2] => { results := [.lit (.bool false)], args := [d1, d2] }
  | _ => none }
def SkipNilWrongFalsely : Prop := skipNilRow.holds Try.pinned (OpenSpec.ofChange skipNilWrong)

/- THE SECOND FORM. 'bulk': how many values and letters a reading holds, each counted each time it is reached (what is shared counts as often as it is met; a slice's spare places count too). A statement '..UptoSaid' is the law's where the arguments, and the package variables that the reading takes, are together of bulk at most 1048576: NARROWER than '..Said'. Prove '..Said' where nothing that the law and all that it calls make is longer than what came in: it says more and counts as full. Else prove '..UptoSaid'. A law counts once. -/
mutual
def uptoBulk {H : Type} : DataW H → Nat
  | .lit (.string bytes) => bytes.length + 1
  | .lit _ => 1
  | .nil => 1
  | .ptr d => uptoBulk d + 1
  | .slice elems spare => uptoBulkAll elems + uptoBulkAll spare + 1
  | .agg parts => uptoBulkAll parts + 1
  | .iface _ d => uptoBulk d + 1
  | .map entries => uptoBulkEntries entries + 1
  | .held _ => 1
def uptoBulkAll {H : Type} : List (DataW H) → Nat
  | [] => 0
  | d :: r => uptoBulk d + uptoBulkAll r
def uptoBulkEntries {H : Type} : List (Lit × DataW H) → Nat
  | [] => 0
  | x :: r => uptoBulkEntry x + uptoBulkEntries r
def uptoBulkEntry {H : Type} : Lit × DataW H → Nat
  | (.string bytes, d) => bytes.length + uptoBulk d + 1
  | (_, d) => uptoBulk d + 1
 end
def uptoSmall : (H : Type) → List (DataW H) → Bool := fun _ ds => decide (uptoBulkAll ds ≤ 1048576)
def OpenSpec.upto (s : _root_.Go.ChangeSpec) : _root_.Go.OpenSpec := { _root_.Go.OpenSpec.ofChange s with cond := some uptoSmall }

/-- 'tithebarnlaw10.SkipOwn', WHERE WHAT IT READS IS OF BULK AT MOST 1048576: true; the input reads as it did. -/
def skipOwnUptoRow : OpenClaim := { program := "ytnfliommpdjlkaa", sum := "610dd0b234b98f3fd3b0c2f47a45fdc418b9461a44806ba5fa62f53fc9e296b6", func := "tithebarn/tithebarnlaw10.SkipOwn", spec := "skipOwn", apart := false, narrowed := true }
def SkipOwnUptoSaid : Prop := skipOwnUptoRow.holds Try.pinned (OpenSpec.upto skipOwnSpec)

/-- 'tithebarnlaw11.ZoneHolds', WHERE WHAT IT READS IS OF BULK AT MOST 1048576: true; the input reads as it did. -/
def zoneHoldsUptoRow : OpenClaim := { program := "ytnfliommpdjlkaa", sum := "610dd0b234b98f3fd3b0c2f47a45fdc418b9461a44806ba5fa62f53fc9e296b6", func := "tithebarn/tithebarnlaw11.ZoneHolds", spec := "zoneHolds", apart := false, narrowed := true }
def ZoneHoldsUptoSaid : Prop := zoneHoldsUptoRow.holds Try.pinned (OpenSpec.upto zoneHoldsSpec)

/-- 'tithebarnlaw11.ZoneOf', WHERE WHAT IT READS IS OF BULK AT MOST 1048576: true; the input reads as it did. -/
def zoneOfUptoRow : OpenClaim := { program := "ytnfliommpdjlkaa", sum := "610dd0b234b98f3fd3b0c2f47a45fdc418b9461a44806ba5fa62f53fc9e296b6", func := "tithebarn/tithebarnlaw11.ZoneOf", spec := "zoneOf", apart := false, narrowed := true }
def ZoneOfUptoSaid : Prop := zoneOfUptoRow.holds Try.pinned (OpenSpec.upto zoneOfSpec)

/-- 'tithebarnlaw11.ZoneSafe', WHERE WHAT IT READS IS OF BULK AT MOST 1048576: true; the input reads as it did. -/
def zoneSafeUptoRow : OpenClaim := { program := "ytnfliommpdjlkaa", sum := "610dd0b234b98f3fd3b0c2f47a45fdc418b9461a44806ba5fa62f53fc9e296b6", func := "tithebarn/tithebarnlaw11.ZoneSafe", spec := "zoneSafe", apart := false, narrowed := true }
def ZoneSafeUptoSaid : Prop := zoneSafeUptoRow.holds Try.pinned (OpenSpec.upto zoneSafeSpec)

/-- 'tithebarnlaw11.ZoneJoin', WHERE WHAT IT READS IS OF BULK AT MOST 1048576: true; the input reads as it did. -/
def zoneJoinUptoRow : OpenClaim := { program := "ytnfliommpdjlkaa", sum := "610dd0b234b98f3fd3b0c2f47a45fdc418b9461a44806ba5fa62f53fc9e296b6", func := "tithebarn/tithebarnlaw11.ZoneJoin", spec := "zoneJoin", apart := false, narrowed := true }
def ZoneJoinUptoSaid : Prop := zoneJoinUptoRow.holds Try.pinned (OpenSpec.upto zoneJoinSpec)

/-- 'tithebarnlaw11.ZoneParts', WHERE WHAT IT READS IS OF BULK AT MOST 1048576: true; the input reads as it did. -/
def zonePartsUptoRow : OpenClaim := { program := "ytnfliommpdjlkaa", sum := "610dd0b234b98f3fd3b0c2f47a45fdc418b9461a44806ba5fa62f53fc9e296b6", func := "tithebarn/tithebarnlaw11.ZoneParts", spec := "zoneParts", apart := false, narrowed := true }
def ZonePartsUptoSaid : Prop := zonePartsUptoRow.holds Try.pinned (OpenSpec.upto zonePartsSpec)

/-- 'tithebarnlaw10.SkipPlays', WHERE WHAT IT READS IS OF BULK AT MOST 1048576: true; the input reads as it did. -/
def skipPlaysUptoRow : OpenClaim := { program := "ytnfliommpdjlkaa", sum := "610dd0b234b98f3fd3b0c2f47a45fdc418b9461a44806ba5fa62f53fc9e296b6", func := "tithebarn/tithebarnlaw10.SkipPlays", spec := "skipPlays", unfollowed := true, recurses := true, apart := false, narrowed := true }
def SkipPlaysUptoSaid : Prop := skipPlaysUptoRow.holds Try.pinned (OpenSpec.upto skipPlaysSpec)

/-- 'tithebarnlaw10.SkipFrom', WHERE WHAT IT READS IS OF BULK AT MOST 1048576: true; the input reads as it did. -/
def skipFromUptoRow : OpenClaim := { program := "ytnfliommpdjlkaa", sum := "610dd0b234b98f3fd3b0c2f47a45fdc418b9461a44806ba5fa62f53fc9e296b6", func := "tithebarn/tithebarnlaw10.SkipFrom", spec := "skipFrom", unfollowed := true, recurses := true, apart := false, narrowed := true }
def SkipFromUptoSaid : Prop := skipFromUptoRow.holds Try.pinned (OpenSpec.upto skipFromSpec)

/-- 'tithebarnlaw10.SkipOrder', WHERE WHAT IT READS IS OF BULK AT MOST 1048576: true; the input reads as it did. -/
def skipOrderUptoRow : OpenClaim := { program := "ytnfliommpdjlkaa", sum := "610dd0b234b98f3fd3b0c2f47a45fdc418b9461a44806ba5fa62f53fc9e296b6", func := "tithebarn/tithebarnlaw10.SkipOrder", spec := "skipOrder", unfollowed := true, recurses := true, apart := false, narrowed := true }
def SkipOrderUptoSaid : Prop := skipOrderUptoRow.holds Try.pinned (OpenSpec.upto skipOrderSpec)

/-- 'tithebarnlaw10.SkipSeed', WHERE WHAT IT READS IS OF BULK AT MOST 1048576: true; the input reads as it did. -/
def skipSeedUptoRow : OpenClaim := { program := "ytnfliommpdjlkaa", sum := "610dd0b234b98f3fd3b0c2f47a45fdc418b9461a44806ba5fa62f53fc9e296b6", func := "tithebarn/tithebarnlaw10.SkipSeed", spec := "skipSeed", unfollowed := true, recurses := true, apart := false, narrowed := true }
def SkipSeedUptoSaid : Prop := skipSeedUptoRow.holds Try.pinned (OpenSpec.upto skipSeedSpec)

/-- 'tithebarnlaw10.SkipNil', WHERE WHAT IT READS IS OF BULK AT MOST 1048576: true; the input reads as it did. -/
def skipNilUptoRow : OpenClaim := { program := "ytnfliommpdjlkaa", sum := "610dd0b234b98f3fd3b0c2f47a45fdc418b9461a44806ba5fa62f53fc9e296b6", func := "tithebarn/tithebarnlaw10.SkipNil", spec := "skipNil", unfollowed := true, recurses := true, apart := false, narrowed := true }
def SkipNilUptoSaid : Prop := skipNilUptoRow.holds Try.pinned (OpenSpec.upto skipNilSpec)

end Rows
end Go.Proofs.Ytnfliommpdjlkaa
