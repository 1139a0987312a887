-- printed by xprint.py (this seat's own program, over the kit's print.py); not trusted: Lean checks it
import Derived.Test.YthlelhndmnkmjaaPr0
import Derived.Test.YthlelhndmnkmjaaPrf52
import Derived.Test.YthlelhndmnkmjaaPrf56
import Derived.Test.YthlelhndmnkmjaaStbr
import Derived.Test.YthlelhndmnkmjaaThy
namespace Go.Proofs.Ythlelhndmnkmjaa.Pr
open Go.RowKit Go.Proofs.YthlelhndmnkmjaaW.PrintWords Go.Proofs.YthlelhndmnkmjaaW.PrintLast Go.Proofs.YthlelhndmnkmjaaW.PrintMore
attribute [local go_sem] max2_int min2_int max_two min_two max_three min_three max_four min_four   -- for this text's walks alone
set_option linter.unusedVariables false
set_option linter.unusedSimpArgs false

/-! ### sortKey: function 52 -/
--@import Derived.Test.YthlelhndmnkmjaaStbr
--@import Derived.Test.YthlelhndmnkmjaaThy
def cfKey (x y : S49) : Int := Thy.cmpV x.f0.f0 x.f0.f1 x.f0.f2 y.f0.f0 y.f0.f1 y.f0.f2
theorem cfKey_lt (x y : S49) : ltOf cfKey x y = Thy.less x.f0.f0 x.f0.f1 x.f0.f2 y.f0.f0 y.f0.f1 y.f0.f2 := by
 unfold ltOf cfKey
 cases h : Thy.less x.f0.f0 x.f0.f1 x.f0.f2 y.f0.f0 y.f0.f1 y.f0.f2 with
 | true => exact decide_eq_true (Thy.cmpV_lt.2 h)
 | false => exact decide_eq_false (fun hh => by rw [Thy.cmpV_lt.1 hh] at h; cases h)
theorem cfKey_swo : Sort.SWO (ltOf cfKey) := by
 refine ⟨fun x => ?_, fun x y z h1 h2 => ?_, fun x y z h1 h2 => ?_⟩
 ·rw [cfKey_lt]; exact Thy.less_irrefl _ _ _
 ·rw [cfKey_lt] at *; exact Thy.less_trans h1 h2
 ·rw [cfKey_lt] at *; exact Thy.notless_trans h1 h2
theorem cfKey_cmp : Stab.CmpB Try.prog 56 #[] encG cfKey := by
 intro x y W
 have h := groups_byKey.calls x.f0.f0 x.f0.f1 x.f0.f2 x.f1.f0 x.f1.f1 x.f1.f2 x.f1.f3.f0 x.f1.f3.f1 x.f1.f3.f2 x.f1.f4.f0 x.f1.f4.f1 x.f1.f4.f2 y.f0.f0 y.f0.f1 y.f0.f2 y.f1.f0 y.f1.f1 y.f1.f2 y.f1.f3.f0 y.f1.f3.f1 y.f1.f3.f2 y.f1.f4.f0 y.f1.f4.f1 y.f1.f4.f2 (cfKey x y) W (rfl)
 rw [Array.append_empty]
 exact h
def sortKey.f (l0 : List S49) : Option (List S49) := if l0.length < 1152921504606846976 then some (Stab.ssort (ltOf cfKey) l0) else none
theorem sortKey.calls (P0_ : Nat → Prop) (u9000_ : Value) (l0 : List S49) (r : List S49) (w0 w : World) (hB : Below w0.heap.size w0 w) (ho0 : Kd.R k49 49 w w0.heap.size P0_ u9000_ l0) (h : sortKey.f l0 = some r) :
  Calls Try.prog 52 #[u9000_, .func (.func 56) #[] #[]] w fun e w' => e = .returned (.tuple #[]) ∧ Kd.R k49 49 w' w0.heap.size (fun k_ => (P0_ k_ ∨ w.heap.size ≤ k_)) u9000_ r ∧ Below w0.heap.size w0 w' ∧ Kept w w' (fun k_ => P0_ k_) := by
 unfold sortKey.f at h
 split at h
 ·rename_i hl
  obtain rfl := Option.some.inj h
  exact sortG cfKey 56 (enters_of Try.func56 (by kernel_rfl) rfl) cfKey_cmp cfKey_swo P0_ u9000_ l0 w0 w hB ho0 hl
 ·cases h


end Go.Proofs.Ythlelhndmnkmjaa.Pr
