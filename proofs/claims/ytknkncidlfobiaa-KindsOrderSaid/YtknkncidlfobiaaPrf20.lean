-- printed by xprint.py (this seat's own program, over the kit's print.py); not trusted: Lean checks it
import Derived.Test.YtknkncidlfobiaaPr0
import Derived.Test.YtknkncidlfobiaaPrf39xc
namespace Go.Proofs.Ytknkncidlfobiaa.Pr
open Go.RowKit Go.Proofs.YtknkncidlfobiaaW.PrintWords Go.Proofs.YtknkncidlfobiaaW.PrintLast Go.Proofs.YtknkncidlfobiaaW.PrintMore
attribute [local go_sem] max2_int min2_int max_two min_two max_three min_three max_four min_four   -- for this text's walks alone
set_option linter.unusedVariables false
set_option linter.unusedSimpArgs false

/-! ### kinds_Right: function 20 -/
def rightB (l0 : List S42) : Bool := decide (0 < l0.length) && (decide (l0.length ≤ 6) && (!(rd_T42 l0 0).f1 && !(l0.any odd)))
def kinds_Right.f (l0 : List S42) : Option Bool := some (rightB l0)
set_option maxHeartbeats 2000000 in
set_option maxRecDepth 100000 in
theorem kinds_Right.calls (A0 : Option Addr) (c0 : Nat) (l0 : List S42) (r : Bool) (w : World) (hr0 : Kd.C k42 w A0 l0.length l0) (hc0 : l0.length ≤ c0) (h : kinds_Right.f l0 = some r) :
    Calls Try.prog 20 #[.slice A0 l0.length c0] w fun e w' => e = .returned (.bool r) ∧ Below w.heap.size w w' := by
  obtain rfl := Option.some.inj h
  clear h
  have HR0 := Aside0.mk hr0
  have hlen : l0.length ≤ 9223372036854775807 := hr0.2.1
  clear hr0
  by_cases h0 : 0 < l0.length
  · have d0 : decide ((0 : Int) < (l0.length : Int)) = true := decide_eq_true (by omega)
    have i0 : (0 : Int) < (l0.length : Int) := by omega
    by_cases h6 : l0.length ≤ 6
    · have d6 : decide ((l0.length : Int) ≤ 6) = true := decide_eq_true (by omega)
      obtain ⟨ad, e0, hx0, hx1⟩ := at_T42 HR0.out 0 (by omega) i0
      cases e0
      simp only [Int.toNat_zero, Nat.zero_mul, Addr.add_zero'] at hx0 hx1
      have C := containsOdd.calls (some ad) c0 l0 (l0.any odd) w HR0.out hc0 rfl
      cases hn : (rd_T42 l0 0).f1 with
      | true =>
        have E := Aside0.mk (show rightB l0 = false by simp [rightB, h0, h6, hn])
        rw [hn] at hx1
        clear C
        go_enter Try.func20, Try.ntmps20
        go_wp2
        go_ret
        exact ⟨by rw [E.out]; rfl, Below.refl _ _⟩
      | false =>
        rw [hn] at hx1
        cases ho : l0.any odd with
        | true =>
          rw [ho] at C
          have E := Aside0.mk (show rightB l0 = false by simp only [rightB, ho]; simp)
          clear ho
          go_enter Try.func20, Try.ntmps20
          go_wp2_with (go_at_call 39; refine C.mono ?_; rintro e w' ⟨rfl, hb'⟩)
          go_ret
          exact ⟨by rw [E.out]; rfl, hb'⟩
        | false =>
          rw [ho] at C
          have E := Aside0.mk (show rightB l0 = true by simp only [rightB, ho, hn]; simp [h0, h6])
          clear ho
          go_enter Try.func20, Try.ntmps20
          go_wp2_with (go_at_call 39; refine C.mono ?_; rintro e w' ⟨rfl, hb'⟩)
          go_ret
          exact ⟨by rw [E.out]; rfl, hb'⟩
    · have d6 : decide (l0.length ≤ 6) = false := decide_eq_false h6
      have E := Aside0.mk (show rightB l0 = false by simp [rightB, h6])
      go_enter Try.func20, Try.ntmps20
      go_wp2
      go_ret
      exact ⟨by rw [E.out]; rfl, Below.refl _ _⟩
  · have e0 : l0 = [] := List.length_eq_zero_iff.1 (by omega)
    subst e0
    have E := Aside0.mk (show rightB [] = false by rfl)
    go_enter Try.func20, Try.ntmps20
    go_wp2
    go_ret
    exact ⟨by rw [E.out]; rfl, Below.refl _ _⟩


end Go.Proofs.Ytknkncidlfobiaa.Pr
