-- printed by xprint.py (this seat's own program, over the kit's print.py); not trusted: Lean checks it
import Derived.Test.YtnfliommpdjlkaaPr0
import Derived.Test.YtnfliommpdjlkaaPrE27
import Derived.Test.YtnfliommpdjlkaaPrf22
import Derived.Test.YtnfliommpdjlkaaPrf19
import Derived.Test.YtnfliommpdjlkaaPrf23
namespace Go.Proofs.Ytnfliommpdjlkaa.Pr
open Go.RowKit Go.Proofs.YtnfliommpdjlkaaW.PrintWords Go.Proofs.YtnfliommpdjlkaaW.PrintLast Go.Proofs.YtnfliommpdjlkaaW.PrintMore
attribute [local go_sem] max2_int min2_int max_two min_two max_three min_three max_four min_four   -- for this text's walks alone
set_option linter.unusedVariables false
set_option linter.unusedSimpArgs false

attribute [local go_sem high] eqA41
/-! ### tithebarnlaw11_ZoneOf: function 5 -/
def tithebarnlaw11_ZoneOf.f (l0 : List (S27)) : Option (Bool) := (tithebarnlaw11_lives_c.f).bind fun t223 => (if t223 = true then ((zone_Of_c.f l0).bind fun bt224 => ((tithebarnref11_Of_c.f l0).bind fun bt232 => (some (bt224.1 == bt232.1 && (bt224.2.1 == bt232.2.1 && ((bt224.2.2.1 == bt232.2.2.1 && (bt224.2.2.2.1 == bt232.2.2.2.1 && (bt224.2.2.2.2.1.toList == bt232.2.2.2.2.1.toList))) && ((bt224.2.2.2.2.2.1 == bt232.2.2.2.2.2.1 && (bt224.2.2.2.2.2.2.1 == bt232.2.2.2.2.2.2.1 && (bt224.2.2.2.2.2.2.2.toList == bt232.2.2.2.2.2.2.2.toList)))))))))) else (some false))
set_option maxHeartbeats 8000000 in
set_option maxRecDepth 100000 in
theorem tithebarnlaw11_ZoneOf.calls (A0 : Option Addr) (c0 : Nat) (l0 : List (S27)) (r : Bool) (w : World) (hr0 : Kd.C k27 w A0 l0.length l0) (hc0 : l0.length ≤ c0) (h : tithebarnlaw11_ZoneOf.f l0 = some r) :
    Calls Try.prog 5 #[.slice A0 l0.length c0] w fun e w' => e = .returned (.bool r) ∧ Below w.heap.size w w' := by
  have HR0 := Aside0.mk hr0
  have HC0 := Aside0.mk hc0
  clear hr0 hc0
  have HB := Aside0.mk (Below.refl w.heap.size w)
  have H : ((tithebarnlaw11_lives_c.f).bind fun t223 => (if t223 = true then ((zone_Of_c.f l0).bind fun bt224 => ((tithebarnref11_Of_c.f l0).bind fun bt232 => (some (bt224.1 == bt232.1 && (bt224.2.1 == bt232.2.1 && ((bt224.2.2.1 == bt232.2.2.1 && (bt224.2.2.2.1 == bt232.2.2.2.1 && (bt224.2.2.2.2.1.toList == bt232.2.2.2.2.1.toList))) && ((bt224.2.2.2.2.2.1 == bt232.2.2.2.2.2.1 && (bt224.2.2.2.2.2.2.1 == bt232.2.2.2.2.2.2.1 && (bt224.2.2.2.2.2.2.2.toList == bt232.2.2.2.2.2.2.2.toList)))))))))) else (some false))) = some r := h
  clear h
  replace H := Option.bind_eq_some_iff.mp H
  obtain ⟨t223, A20, H⟩ := H
  replace H : (if t223 = true then ((zone_Of_c.f l0).bind fun bt224 => ((tithebarnref11_Of_c.f l0).bind fun bt232 => (some (bt224.1 == bt232.1 && (bt224.2.1 == bt232.2.1 && ((bt224.2.2.1 == bt232.2.2.1 && (bt224.2.2.2.1 == bt232.2.2.2.1 && (bt224.2.2.2.2.1.toList == bt232.2.2.2.2.1.toList))) && ((bt224.2.2.2.2.2.1 == bt232.2.2.2.2.2.1 && (bt224.2.2.2.2.2.2.1 == bt232.2.2.2.2.2.2.1 && (bt224.2.2.2.2.2.2.2.toList == bt232.2.2.2.2.2.2.2.toList)))))))))) else (some false)) = some r := H
  have A2 := Aside0.mk A20
  clear A20
  by_cases c3 : t223 = true
  · subst c3
    have H1 : ((zone_Of_c.f l0).bind fun bt224 => ((tithebarnref11_Of_c.f l0).bind fun bt232 => (some (bt224.1 == bt232.1 && (bt224.2.1 == bt232.2.1 && ((bt224.2.2.1 == bt232.2.2.1 && (bt224.2.2.2.1 == bt232.2.2.2.1 && (bt224.2.2.2.2.1.toList == bt232.2.2.2.2.1.toList))) && ((bt224.2.2.2.2.2.1 == bt232.2.2.2.2.2.1 && (bt224.2.2.2.2.2.2.1 == bt232.2.2.2.2.2.2.1 && (bt224.2.2.2.2.2.2.2.toList == bt232.2.2.2.2.2.2.2.toList)))))))))) = some r := by rw [if_pos rfl] at H; exact H
    clear H
    have H := H1
    clear H1
    replace H := Option.bind_eq_some_iff.mp H
    obtain ⟨⟨t224, t225, t226, t227, t228, t229, t230, t231⟩, A40, H⟩ := H
    replace H : ((tithebarnref11_Of_c.f l0).bind fun bt232 => (some (t224 == bt232.1 && (t225 == bt232.2.1 && ((t226 == bt232.2.2.1 && (t227 == bt232.2.2.2.1 && (t228.toList == bt232.2.2.2.2.1.toList))) && ((t229 == bt232.2.2.2.2.2.1 && (t230 == bt232.2.2.2.2.2.2.1 && (t231.toList == bt232.2.2.2.2.2.2.2.toList))))))))) = some r := H
    have A4 := Aside0.mk A40
    clear A40
    replace H := Option.bind_eq_some_iff.mp H
    obtain ⟨⟨t232, t233, t234, t235, t236, t237, t238, t239⟩, A50, H⟩ := H
    replace H : (some (t224 == t232 && (t225 == t233 && ((t226 == t234 && (t227 == t235 && (t228.toList == t236.toList))) && ((t229 == t237 && (t230 == t238 && (t231.toList == t239.toList)))))))) = some r := H
    have A5 := Aside0.mk A50
    clear A50
    obtain rfl := Option.some.inj H
    go_enter Try.func5, Try.ntmps5
    go_wp2_with (first | ((with_reducible refine gate_callee (f := 19) rfl ?_); refine goesL_ (some 3) rfl rfl Try.func19 (by kernel_rfl) rfl #[] rfl (by (try simp only [List.map_toArray, List.map_cons, List.map_nil]); first | done | rfl | (simp only [List.length_drop, List.length_take]; rfl)) ?_; (with_reducible refine (tithebarnlaw11_lives_c.calls  true _ A2.out).mono ?_); rintro e w6 ⟨rfl, hb⟩; refine ⟨_, rfl, ?_⟩; have n0_ := Aside0.mk (below_step (by repeat (first | (with_reducible first | exact HB.out | apply below_alloc | apply pw_below_drewN | apply below_drew1) | exact HB.out)) hb); clear HB; have HB := n0_; clear n0_; (try clear hb); (try clear hb2); (try clear hk); (try clear hi)) | (go_at_call 22; (with_reducible refine (zone_Of_c.calls _ _ l0 t224 t225 t226 t227 t228 t229 t230 t231 _ ?side1 ?side2 A4.out).mono ?_); (case side1 => repeat (first | exact (Kd.C_below HR0.out HB.out) | (with_reducible refine Kd.C_alloc ?_ _) | (with_reducible refine Kd.C_drewN ?_ _) | (with_reducible refine Kd.C_drew ?_))); (case side2 => exact HC0.out); rintro e w7 ⟨rfl, hb⟩; have n0_ := Aside0.mk (below_step (by repeat (first | (with_reducible first | exact HB.out | apply below_alloc | apply pw_below_drewN | apply below_drew1) | exact HB.out)) hb); clear HB; have HB := n0_; clear n0_; (try clear hb); (try clear hb2); (try clear hk); (try clear hi)) | (go_at_call 23; (with_reducible refine (tithebarnref11_Of_c.calls _ _ l0 t232 t233 t234 t235 t236 t237 t238 t239 _ ?side1 ?side2 A5.out).mono ?_); (case side1 => repeat (first | exact (Kd.C_below HR0.out HB.out) | (with_reducible refine Kd.C_alloc ?_ _) | (with_reducible refine Kd.C_drewN ?_ _) | (with_reducible refine Kd.C_drew ?_))); (case side2 => exact HC0.out); rintro e w8 ⟨rfl, hb⟩; have n0_ := Aside0.mk (below_step (by repeat (first | (with_reducible first | exact HB.out | apply below_alloc | apply pw_below_drewN | apply below_drew1) | exact HB.out)) hb); clear HB; have HB := n0_; clear n0_; (try clear hb); (try clear hb2); (try clear hk); (try clear hi)))
    go_ret
    exact ⟨by first | rfl | (simp [errW_none, errW_some] <;> rfl) | (simp [*, errW_none, errW_some] <;> rfl), by repeat (first | (with_reducible first | exact HB.out | apply below_alloc | apply pw_below_drewN | apply below_drew1) | exact HB.out)⟩
  · replace c3 := Bool.eq_false_iff.mpr c3
    subst c3
    have H1 : (some false) = some r := by rw [if_neg (show ¬ (false = true) by decide)] at H; exact H
    clear H
    have H := H1
    clear H1
    obtain rfl := Option.some.inj H
    go_enter Try.func5, Try.ntmps5
    go_wp2_with (first | ((with_reducible refine gate_callee (f := 19) rfl ?_); refine goesL_ (some 3) rfl rfl Try.func19 (by kernel_rfl) rfl #[] rfl (by (try simp only [List.map_toArray, List.map_cons, List.map_nil]); first | done | rfl | (simp only [List.length_drop, List.length_take]; rfl)) ?_; (with_reducible refine (tithebarnlaw11_lives_c.calls  false _ A2.out).mono ?_); rintro e w9 ⟨rfl, hb⟩; refine ⟨_, rfl, ?_⟩; have n0_ := Aside0.mk (below_step (by repeat (first | (with_reducible first | exact HB.out | apply below_alloc | apply pw_below_drewN | apply below_drew1) | exact HB.out)) hb); clear HB; have HB := n0_; clear n0_; (try clear hb); (try clear hb2); (try clear hk); (try clear hi)))
    go_ret
    exact ⟨by first | rfl | (simp [errW_none, errW_some] <;> rfl) | (simp [*, errW_none, errW_some] <;> rfl), by repeat (first | (with_reducible first | exact HB.out | apply below_alloc | apply pw_below_drewN | apply below_drew1) | exact HB.out)⟩

end Go.Proofs.Ytnfliommpdjlkaa.Pr
