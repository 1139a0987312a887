/-
  No cell of these rows narrows 'for every input' (looked for: loops, veiled, ifaces, maps, wideKeys, modest, calm, conditions, laid).
  DERIVED. THE GIVEN ROWS OF THIS SEAT. 5 by the template 'for every input the law returns true; each argument reads behind the call as it read before'; 0 by the template 'total and deterministic' (their statements: YtcbgcmaioicdbaaTotals.lean).
  GIVEN WITH THE SEED: the statements are not yours to turn. If you find one false, say at which input.
  Laid BY PROGRAM, IN A SANDBOX (cutbox-rows.mjs): the forced cells as the released guide's own fill.sh prints them over the translation dafbc22d4f504de9… (all of the seat's roots in one cut). By AI agents, Wed Nov 11 2026. No macro, syntax, notation, axiom, sorry.
-/
import Derived.Test.YtcbgcmaioicdbaaChecked
import GoSem.Claim
import GoSem.ClaimJoined
import GoSem.ClaimMapViews
import Derived.JoinedTies
import Derived.KernelRfl
namespace Go.Proofs.Ytcbgcmaioicdbaa
/- THE CELL 'sum', in the pinned program and in every row, IS THE sha256 OF THE DUMP (.gsa) THAT YtcbgcmaioicdbaaProg.lean LOADS. Nothing in Lean hashes anything: it is a label: what it is worth is what the hold of that sum in a sandbox is worth. -/
noncomputable def Try.pinned : Pinned := { name := "ytcbgcmaioicdbaa", sum := "dafbc22d4f504de9c4022b4d9086dedd3c8143ce934acbc679f872b3a78ec679", checked := Try.checked }
namespace Rows
def none {H : Type} : Left H := { results := [], args := [] }

/-- 'tithebarnlaw17.LevelsPick': WHATEVER THE INPUT: true; the input reads as it did. -/
def levelsPickSpec : ChangeSpec := { name := "levelsPick", fn := fun _ => fun
  | [d] => { results := [.lit (.bool true)], args := [d] }
  | _ => none }
def levelsPickRow : OpenClaim := { program := "ytcbgcmaioicdbaa", sum := "dafbc22d4f504de9c4022b4d9086dedd3c8143ce934acbc679f872b3a78ec679", func := "tithebarn/tithebarnlaw17.LevelsPick", spec := "levelsPick", unfollowed := true, recurses := true, apart := false }
def LevelsPickSaid : Prop := levelsPickRow.holds Try.pinned (OpenSpec.ofChange levelsPickSpec)

/-- ITS FALSE NEIGHBOUR: 'it returns false'. Refute it at one input. -/
def levelsPickWrong : ChangeSpec := { name := "levelsPick", fn := fun _ => fun
  | [d] => { results := [.lit (.bool false)], args := [d] }
  | _ => none }
def LevelsPickWrongFalsely : Prop := levelsPickRow.holds Try.pinned (OpenSpec.ofChange levelsPickWrong)

/-- 'tithebarnlaw17.LevelsNames': WHATEVER THE INPUT: true; the input reads as it did. -/
def levelsNamesSpec : ChangeSpec := { name := "levelsNames", fn := fun _ => fun
  | [d] => { results := [.lit (.bool true)], args := [d] }
  | _ => none }
def levelsNamesRow : OpenClaim := { program := "ytcbgcmaioicdbaa", sum := "dafbc22d4f504de9c4022b4d9086dedd3c8143ce934acbc679f872b3a78ec679", func := "tithebarn/tithebarnlaw17.LevelsNames", spec := "levelsNames", unfollowed := true, recurses := true, apart := false }
def LevelsNamesSaid : Prop := levelsNamesRow.holds Try.pinned (OpenSpec.ofChange levelsNamesSpec)

/-- ITS FALSE NEIGHBOUR: 'it returns false'. Refute it at one input. -/
def levelsNamesWrong : ChangeSpec := { name := "levelsNames", fn := fun _ => fun
  | [d] => { results := [.lit (.bool false)], args := [d] }
  | _ => none }
def LevelsNamesWrongFalsely : Prop := levelsNamesRow.holds Try.pinned (OpenSpec.ofChange levelsNamesWrong)

/-- 'tithebarnlaw17.LevelsKeeps': WHATEVER THE INPUT: true; the input reads as it did. -/
def levelsKeepsSpec : ChangeSpec := { name := "levelsKeeps", fn := fun _ => fun
  | [d] => { results := [.lit (.bool true)], args := [d] }
  | _ => none }
def levelsKeepsRow : OpenClaim := { program := "ytcbgcmaioicdbaa", sum := "dafbc22d4f504de9c4022b4d9086dedd3c8143ce934acbc679f872b3a78ec679", func := "tithebarn/tithebarnlaw17.LevelsKeeps", spec := "levelsKeeps", unfollowed := true, recurses := true, apart := false }
def LevelsKeepsSaid : Prop := levelsKeepsRow.holds Try.pinned (OpenSpec.ofChange levelsKeepsSpec)

/-- ITS FALSE NEIGHBOUR: 'it returns false'. Refute it at one input. -/
def levelsKeepsWrong : ChangeSpec := { name := "levelsKeeps", fn := fun _ => fun
  | [d] => { results := [.lit (.bool false)], args := [d] }
  | _ => none }
def LevelsKeepsWrongFalsely : Prop := levelsKeepsRow.holds Try.pinned (OpenSpec.ofChange levelsKeepsWrong)

/-- 'tithebarnlaw17.LevelsOrder': WHATEVER THE INPUT: true; the input reads as it did. -/
def levelsOrderSpec : ChangeSpec := { name := "levelsOrder", fn := fun _ => fun
  | [d] => { results := [.lit (.bool true)], args := [d] }
  | _ => none }
def levelsOrderRow : OpenClaim := { program := "ytcbgcmaioicdbaa", sum := "dafbc22d4f504de9c4022b4d9086dedd3c8143ce934acbc679f872b3a78ec679", func := "tithebarn/tithebarnlaw17.LevelsOrder", spec := "levelsOrder", unfollowed := true, recurses := true, apart := false }
def LevelsOrderSaid : Prop := levelsOrderRow.holds Try.pinned (OpenSpec.ofChange levelsOrderSpec)

/-- ITS FALSE NEIGHBOUR: 'it returns false'. Refute it at one input. -/
def levelsOrderWrong : ChangeSpec := { name := "levelsOrder", fn := fun _ => fun
  | [d] => { results := [.lit (.bool false)], args := [d] }
  | _ => none }
def LevelsOrderWrongFalsely : Prop := levelsOrderRow.holds Try.pinned (OpenSpec.ofChange levelsOrderWrong)

/-- 'tithebarnlaw17.LevelsFew': WHATEVER THE INPUT: true; the input reads as it did. -/
def levelsFewSpec : ChangeSpec := { name := "levelsFew", fn := fun _ => fun
  | [d] => { results := [.lit (.bool true)], args := [d] }
  | _ => none }
def levelsFewRow : OpenClaim := { program := "ytcbgcmaioicdbaa", sum := "dafbc22d4f504de9c4022b4d9086dedd3c8143ce934acbc679f872b3a78ec679", func := "tithebarn/tithebarnlaw17.LevelsFew", spec := "levelsFew", unfollowed := true, recurses := true, apart := false }
def LevelsFewSaid : Prop := levelsFewRow.holds Try.pinned (OpenSpec.ofChange levelsFewSpec)

/-- ITS FALSE NEIGHBOUR: 'it returns false'. Refute it at one input. -/
def levelsFewWrong : ChangeSpec := { name := "levelsFew", fn := fun _ => fun
  | [d] => { results := [.lit (.bool false)], args := [d] }
  | _ => none }
def LevelsFewWrongFalsely : Prop := levelsFewRow.holds Try.pinned (OpenSpec.ofChange levelsFewWrong)

/- THE SECOND FORM. 'bulk': how many values and letters a reading holds, each counted each time it is reached (what is shared counts as often as it is met; a slice's spare places count too). A statement '..UptoSaid' is the law's where the arguments, and the package variables that the reading takes, are together of bulk at most 1048576: NARROWER than '..Said'. Prove '..Said' where nothing that the law and all that it calls make is longer than what came in: it says more and counts as full. Else prove '..UptoSaid'. A law counts once. -/
mutual
def uptoBulk {H : Type} : DataW H → Nat
  | .lit (.string bytes) => bytes.length + 1
  | .lit _ => 1
  | .nil => 1
  | .ptr d => uptoBulk d + 1
  | .slice elems spare => uptoBulkAll elems + uptoBulkAll spare + 1
  | .agg parts => uptoBulkAll parts + 1
  | .iface _ d => uptoBulk d + 1
  | .map entries => uptoBulkEntries entries + 1
  | .held _ => 1
def uptoBulkAll {H : Type} : List (DataW H) → Nat
  | [] => 0
  | d :: r => uptoBulk d + uptoBulkAll r
def uptoBulkEntries {H : Type} : List (Lit × DataW H) → Nat
  | [] => 0
  | x :: r => uptoBulkEntry x + uptoBulkEntries r
def uptoBulkEntry {H : Type} : Lit × DataW H → Nat
  | (.string bytes, d) => bytes.length + uptoBulk d + 1
  | (_, d) => uptoBulk d + 1
 end
def uptoSmall : (H : Type) → List (DataW H) → Bool := fun _ ds => decide (uptoBulkAll ds ≤ 1048576)
def OpenSpec.upto (s : _root_.Go.ChangeSpec) : _root_.Go.OpenSpec := { _root_.Go.OpenSpec.ofChange s with cond := some uptoSmall }

/-- 'tithebarnlaw17.LevelsPick', WHERE WHAT IT READS IS OF BULK AT MOST 1048576: true; the input reads as it did. -/
def levelsPickUptoRow : OpenClaim := { program := "ytcbgcmaioicdbaa", sum := "dafbc22d4f504de9c4022b4d9086dedd3c8143ce934acbc679f872b3a78ec679", func := "tithebarn/tithebarnlaw17.LevelsPick", spec := "levelsPick", unfollowed := true, recurses := true, apart := false, narrowed := true }
def LevelsPickUptoSaid : Prop := levelsPickUptoRow.holds Try.pinned (OpenSpec.upto levelsPickSpec)

/-- 'tithebarnlaw17.LevelsNames', WHERE WHAT IT READS IS OF BULK AT MOST 1048576: true; the input reads as it did. -/
def levelsNamesUptoRow : OpenClaim := { program := "ytcbgcmaioicdbaa", sum := "dafbc22d4f504de9c4022b4d9086dedd3c8143ce934acbc679f872b3a78ec679", func := "tithebarn/tithebarnlaw17.LevelsNames", spec := "levelsNames", unfollowed := true, recurses := true, apart := false, narrowed := true }
def LevelsNamesUptoSaid : Prop := levelsNamesUptoRow.holds Try.pinned (OpenSpec.upto levelsNamesSpec)

/-- 'tithebarnlaw17.LevelsKeeps', WHERE WHAT IT READS IS OF BULK AT MOST 1048576: true; the input reads as it did. -/
def levelsKeepsUptoRow : OpenClaim := { program := "ytcbgcmaioicdbaa", sum := "dafbc22d4f504de9c4022b4d9086dedd3c8143ce934acbc679f872b3a78ec679", func := "tithebarn/tithebarnlaw17.LevelsKeeps", spec := "levelsKeeps", unfollowed := true, recurses := true, apart := false, narrowed := true }
def LevelsKeepsUptoSaid : Prop := levelsKeepsUptoRow.holds Try.pinned (OpenSpec.upto levelsKeepsSpec)

/-- 'tithebarnlaw17.LevelsOrder', WHERE WHAT IT READS IS OF BULK AT MOST 1048576: true; the input reads as it did. -/
def levelsOrderUptoRow : OpenClaim := { program := "ytcbgcmaioicdbaa", sum := "dafbc22d4f504de9c4022b4d9086dedd3c8143ce934acbc679f872b3a78ec679", func := "tithebarn/tithebarnlaw17.LevelsOrder", spec := "levelsOrder", unfollowed := true, recurses := true, apart := false, narrowed := true }
def LevelsOrderUptoSaid : Prop := levelsOrderUptoRow.holds Try.pinned (OpenSpec.upto levelsOrderSpec)

/-- 'tithebarnlaw17.LevelsFew', WHERE WHAT IT READS IS OF BULK AT MOST 1048576: true; the input reads as it did. -/
def levelsFewUptoRow : OpenClaim := { program := "ytcbgcmaioicdbaa", sum := "dafbc22d4f504de9c4022b4d9086dedd3c8143ce934acbc679f872b3a78ec679", func := "tithebarn/tithebarnlaw17.LevelsFew", spec := "levelsFew", unfollowed := true, recurses := true, apart := false, narrowed := true }
def LevelsFewUptoSaid : Prop := levelsFewUptoRow.holds Try.pinned (OpenSpec.upto levelsFewSpec)

end Rows
end Go.Proofs.Ytcbgcmaioicdbaa
