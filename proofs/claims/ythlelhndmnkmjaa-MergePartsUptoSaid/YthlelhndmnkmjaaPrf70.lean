-- printed by xprint.py
import Derived.Test.YthlelhndmnkmjaaPr0
import Derived.Test.YthlelhndmnkmjaaThy
import Derived.WalkLawsBesides
namespace Go.Proofs.Ythlelhndmnkmjaa.Pr
open Go.RowKit Go.Proofs.YthlelhndmnkmjaaW PrintWords PrintLast PrintMore
set_option linter.unusedVariables false
set_option linter.unusedSimpArgs false

/-! ### cmp_Compare_string: function 70 -/
--@import Derived.Test.YthlelhndmnkmjaaThy
--@import Derived.WalkLawsBesides
def cmp_Compare_string.f (a0 : ByteArray) (a1 : ByteArray) : Option (Int) := some (Thy.cmpS a0 a1)
set_option maxHeartbeats 1000000 in
theorem cmp_Compare_string.calls (a0 : ByteArray) (a1 : ByteArray) (r : Int) (w : World) (h : cmp_Compare_string.f a0 a1 = some r) :
  Calls Try.prog 70 #[.string a0, .string a1] w fun e w' => e = .returned (.int .i64 r) ∧ Drawn0 w w' := by
 obtain rfl := Option.some.inj h
 clear h
 have n0 : (a0.toList != a0.toList) = false := by simp
 have n1 : (a1.toList != a1.toList) = false := by simp
 cases h : Op.bytesLess a0.toList a1.toList with
 | true =>
  have E := Aside0.mk (show Thy.cmpS a0 a1 = -1 by simp [Thy.cmpS, h])
  go_enter Try.func70, Try.ntmps70
  go_wp2
  go_ret
  exact ⟨by rw [E.out]; rfl, Drawn0.refl _⟩
 | false =>
  cases k : Op.bytesLess a1.toList a0.toList with
  | true =>
   have E := Aside0.mk (show Thy.cmpS a0 a1 = 1 by simp [Thy.cmpS, h, k])
   have e : (a0.toList == a1.toList) = false := by
    rw [beq_eq_false_iff_ne]; intro e; rw [e, Thy.bl_irrefl] at k; cases k
   go_enter Try.func70, Try.ntmps70
   go_wp2
   go_ret
   exact ⟨by rw [E.out]; rfl, Drawn0.refl _⟩
  | false =>
   have E := Aside0.mk (show Thy.cmpS a0 a1 = 0 by simp [Thy.cmpS, h, k])
   have e : (a0.toList == a1.toList) = true := by rw [beq_iff_eq]; exact Thy.bl_total _ _ h k
   go_enter Try.func70, Try.ntmps70
   go_wp2
   go_ret
   exact ⟨by rw [E.out]; rfl, Drawn0.refl _⟩


end Go.Proofs.Ythlelhndmnkmjaa.Pr
