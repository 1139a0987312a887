-- printed by xprint.py
import Derived.Test.YtcbgcmaioicdbaaPr0
import Derived.Test.YtcbgcmaioicdbaaPrf10
import Derived.Test.YtcbgcmaioicdbaaPrf13
import Derived.Test.YtcbgcmaioicdbaaPrf8
import Derived.Test.YtcbgcmaioicdbaaPrf9
import Derived.Test.YtcbgcmaioicdbaaPrf12
import Derived.Test.YtcbgcmaioicdbaaPrf17
import Derived.Test.YtcbgcmaioicdbaaPrf22
namespace Go.Proofs.Ytcbgcmaioicdbaa.Pr
open Go.RowKit Go.Proofs.YtcbgcmaioicdbaaW PrintWords PrintLast PrintMore
set_option linter.unusedVariables false
set_option linter.unusedSimpArgs false

/-! ### tithebarnlaw17_LevelsOrder: function 6 -/
mutual
def tithebarnlaw17_LevelsOrder.j0 : Nat → List (S38) → Bool → Option (Bool)
 | 0, _, _ => none
 | k + 1, x0, x25 => if x25 = true then (some true) else (tithebarnlaw17_LevelsOrder.l0 k x0 ([] : List (S38)) (wrap64 ((x0.length : Int) - 1)))
def tithebarnlaw17_LevelsOrder.l0 : Nat → List (S38) → List (S38) → Int → Option (Bool)
 | 0, _, _, _ => none
 | k + 1, x0, x3, x4 => if x4 ≥ 0 then (if 0 ≤ x4 then (if x4 < (x0.length : Int) then (if x3.length < 1759218604441 then (tithebarnlaw17_LevelsOrder.l0 k x0 (x3 ++ [(⟨(rd_T38 x0 x4).f0, (rd_T38 x0 x4).f1, (⟨(rd_T38 x0 x4).f2.f0, (rd_T38 x0 x4).f2.f1, (rd_T38 x0 x4).f2.f2⟩ : S36), (⟨(rd_T38 x0 x4).f3.f0, (rd_T38 x0 x4).f3.f1, (rd_T38 x0 x4).f3.f2⟩ : S36)⟩ : S38)]) (wrap64 (x4 - 1))) else (none)) else (none)) else (none)) else ((levels_Pick.f x0).bind fun bt442 => ((levels_Pick.f x3).bind fun bt450 => (if (bt442.2.2.2.2 == bt450.2.2.2.2) = true then ((tithebarnlaw17_same.f k bt442.1 bt442.2.1 bt442.2.2.1 bt442.2.2.2.1 bt450.1 bt450.2.1 bt450.2.2.1 bt450.2.2.2.1).bind fun t458 => (some t458)) else (some false))))
end
def tithebarnlaw17_LevelsOrder.f (k : Nat) (l0 : List (S38)) : Option (Bool) := (tithebarnlaw17_lives_c.f k).bind fun t431 => (if t431 = true then ((tithebarnlaw17_early.f l0).bind fun t432 => ((tithebarnlaw17_unlike.f k t432).bind fun t435 => (if t435 = true then ((levels_Disjoint.f k t432).bind fun t436 => (if t436 = true then ((tithebarnlaw17_well.f k t432).bind fun t437 => (tithebarnlaw17_LevelsOrder.j0 k t432 (!t437))) else (tithebarnlaw17_LevelsOrder.j0 k t432 true))) else (tithebarnlaw17_LevelsOrder.j0 k t432 true)))) else (some false))
theorem tithebarnlaw17_LevelsOrder.mono_l : ∀ k, (∀ y0 y1, LeO (tithebarnlaw17_LevelsOrder.j0 k y0 y1) (tithebarnlaw17_LevelsOrder.j0 (k + 1) y0 y1)) ∧ (∀ y0 y1 y2, LeO (tithebarnlaw17_LevelsOrder.l0 k y0 y1 y2) (tithebarnlaw17_LevelsOrder.l0 (k + 1) y0 y1 y2))
 | 0 => ⟨fun _ _ r h => by simp [tithebarnlaw17_LevelsOrder.j0] at h, fun _ _ _ r h => by simp [tithebarnlaw17_LevelsOrder.l0] at h⟩
 | k + 1 => by
  obtain ⟨ih0, ih1⟩ := tithebarnlaw17_LevelsOrder.mono_l k
  refine ⟨?_, ?_⟩
  ·intro y0 y1
   unfold tithebarnlaw17_LevelsOrder.j0
   repeat' first
   | (with_reducible exact ih0 _ _)
   | (with_reducible exact ih1 _ _ _)
   | (with_reducible exact levels_Disjoint.mono _ _)
   | (with_reducible exact tithebarnlaw17_lives_c.mono _)
   | (with_reducible exact tithebarnlaw17_same.mono _ _ _ _ _ _ _ _ _)
   | (with_reducible exact tithebarnlaw17_unlike.mono _ _)
   | (with_reducible exact tithebarnlaw17_well.mono _ _)
   | (with_reducible exact LeO.refl _)
   | (with_reducible exact LeO.none _)
   | (with_reducible refine LeO.ite ?_ ?_)
   | (with_reducible refine LeO.bind ?_ (fun _ => ?_))
  ·intro y0 y1 y2
   unfold tithebarnlaw17_LevelsOrder.l0
   repeat' first
   | (with_reducible exact ih0 _ _)
   | (with_reducible exact ih1 _ _ _)
   | (with_reducible exact levels_Disjoint.mono _ _)
   | (with_reducible exact tithebarnlaw17_lives_c.mono _)
   | (with_reducible exact tithebarnlaw17_same.mono _ _ _ _ _ _ _ _ _)
   | (with_reducible exact tithebarnlaw17_unlike.mono _ _)
   | (with_reducible exact tithebarnlaw17_well.mono _ _)
   | (with_reducible exact LeO.refl _)
   | (with_reducible exact LeO.none _)
   | (with_reducible refine LeO.ite ?_ ?_)
   | (with_reducible refine LeO.bind ?_ (fun _ => ?_))
theorem tithebarnlaw17_LevelsOrder.mono : ∀ a0 k, LeO (tithebarnlaw17_LevelsOrder.f k a0) (tithebarnlaw17_LevelsOrder.f (k + 1) a0) := by
 intro a0 k
 obtain ⟨ih0, ih1⟩ := tithebarnlaw17_LevelsOrder.mono_l k
 unfold tithebarnlaw17_LevelsOrder.f
 repeat' first
   | (with_reducible exact ih0 _ _)
   | (with_reducible exact ih1 _ _ _)
   | (with_reducible exact levels_Disjoint.mono _ _)
   | (with_reducible exact tithebarnlaw17_lives_c.mono _)
   | (with_reducible exact tithebarnlaw17_same.mono _ _ _ _ _ _ _ _ _)
   | (with_reducible exact tithebarnlaw17_unlike.mono _ _)
   | (with_reducible exact tithebarnlaw17_well.mono _ _)
   | (with_reducible exact LeO.refl _)
   | (with_reducible exact LeO.none _)
   | (with_reducible refine LeO.ite ?_ ?_)
   | (with_reducible refine LeO.bind ?_ (fun _ => ?_))
set_option maxHeartbeats 8000000 in
set_option maxRecDepth 100000 in
theorem tithebarnlaw17_LevelsOrder.calls (k : Nat) (A0 : Option Addr) (c0 : Nat) (l0 : List (S38)) (r : Bool) (w : World) (hr0 : Kd.C k38 w A0 l0.length l0) (hc0 : l0.length ≤ c0) (h : tithebarnlaw17_LevelsOrder.f k l0 = some r) :
  Calls Try.prog 6 #[.slice A0 l0.length c0] w fun e w' => e = .returned (.bool r) ∧ Below w.heap.size w w' := by
 have hu38 := Try.underlying38
 have hu27 := Try.underlying27
 have hu30 := Try.underlying30
 have HR0 := Aside0.mk hr0
 have HC0 := Aside0.mk hc0
 clear hr0 hc0
 have HB := Aside0.mk (Below.refl w.heap.size w)
 have H : ((tithebarnlaw17_lives_c.f k).bind fun t431 => (if t431 = true then ((tithebarnlaw17_early.f l0).bind fun t432 => ((tithebarnlaw17_unlike.f k t432).bind fun t435 => (if t435 = true then ((levels_Disjoint.f k t432).bind fun t436 => (if t436 = true then ((tithebarnlaw17_well.f k t432).bind fun t437 => (tithebarnlaw17_LevelsOrder.j0 k t432 (!t437))) else (tithebarnlaw17_LevelsOrder.j0 k t432 true))) else (tithebarnlaw17_LevelsOrder.j0 k t432 true)))) else (some false))) = some r := h
 clear h
 replace H := Option.bind_eq_some_iff.mp H
 obtain ⟨t431, A20, H⟩ := H
 replace H : (if t431 = true then ((tithebarnlaw17_early.f l0).bind fun t432 => ((tithebarnlaw17_unlike.f k t432).bind fun t435 => (if t435 = true then ((levels_Disjoint.f k t432).bind fun t436 => (if t436 = true then ((tithebarnlaw17_well.f k t432).bind fun t437 => (tithebarnlaw17_LevelsOrder.j0 k t432 (!t437))) else (tithebarnlaw17_LevelsOrder.j0 k t432 true))) else (tithebarnlaw17_LevelsOrder.j0 k t432 true)))) else (some false)) = some r := H
 have A2 := Aside0.mk A20
 clear A20
 by_cases c3 : t431 = true
 ·subst c3
  have H1 : ((tithebarnlaw17_early.f l0).bind fun t432 => ((tithebarnlaw17_unlike.f k t432).bind fun t435 => (if t435 = true then ((levels_Disjoint.f k t432).bind fun t436 => (if t436 = true then ((tithebarnlaw17_well.f k t432).bind fun t437 => (tithebarnlaw17_LevelsOrder.j0 k t432 (!t437))) else (tithebarnlaw17_LevelsOrder.j0 k t432 true))) else (tithebarnlaw17_LevelsOrder.j0 k t432 true)))) = some r := by rw [if_pos rfl] at H; exact H
  clear H
  have H := H1
  clear H1
  replace H := Option.bind_eq_some_iff.mp H
  obtain ⟨t432, A40, H⟩ := H
  replace H : ((tithebarnlaw17_unlike.f k t432).bind fun t435 => (if t435 = true then ((levels_Disjoint.f k t432).bind fun t436 => (if t436 = true then ((tithebarnlaw17_well.f k t432).bind fun t437 => (tithebarnlaw17_LevelsOrder.j0 k t432 (!t437))) else (tithebarnlaw17_LevelsOrder.j0 k t432 true))) else (tithebarnlaw17_LevelsOrder.j0 k t432 true))) = some r := H
  have A4 := Aside0.mk A40
  clear A40
  have HC5 := Aside0.mk H
  clear H
  go_enter Try.func6, Try.ntmps6
  go_upto_region 4 with (first | ((with_reducible refine gate_callee (f := 8) rfl ?_); refine goesL_ (some 9) rfl rfl Try.func8 (by kernel_rfl) rfl #[] rfl (by (try simp only [List.map_toArray, List.map_cons, List.map_nil]); first | done | rfl | (simp only [List.length_drop, List.length_take]; rfl)) ?_; (with_reducible refine (tithebarnlaw17_lives_c.calls k  true _ A2.out).mono ?_); rintro e w6 ⟨rfl, hb⟩; refine ⟨_, rfl, ?_⟩; have n0_ := Aside0.mk (below_step (by with_reducible repeat first | exact HB.out | apply below_alloc | apply pw_below_drewN | apply below_drew1) hb); clear HB; have HB := n0_; clear n0_; (try clear hb); (try clear hb2); (try clear hk); (try clear hi)) | ((with_reducible refine gate_callee (f := 9) rfl ?_); refine goesL_ (some 12) rfl rfl Try.func9 (by kernel_rfl) rfl #[.slice A0 l0.length c0] rfl (by (try simp only [List.map_toArray, List.map_cons, List.map_nil]); first | done | rfl | (simp only [List.length_drop, List.length_take]; rfl)) ?_; (with_reducible refine (tithebarnlaw17_early.calls (fun k_ => k_ < w.heap.size) _ _ l0 t432 _ ?side1 A4.out).mono ?_); (case side1 => exact Kd.V_mk HC0.out (Kd.F_below (Kd.C_F k38_heap HR0.out) (by with_reducible repeat first | exact HB.out | apply below_alloc | apply pw_below_drewN | apply below_drew1))); rintro e w7 ⟨v433, rfl, ho0, hb⟩; refine ⟨_, rfl, ?_⟩; have n0_ := Aside0.mk (Kd.V_lower (Kd.V_mono (ok' := fun k_ => True) ho0 (fun k_ hk_ => trivial)) (below_size (by with_reducible repeat first | exact HB.out | apply below_alloc | apply pw_below_drewN | apply below_drew1))); have n1_ := Aside0.mk (below_step (by with_reducible repeat first | exact HB.out | apply below_alloc | apply pw_below_drewN | apply below_drew1) hb); clear HB; have HO434 := n0_; have HB := n1_; clear n0_ n1_; (try clear hb); (try clear hb2); (try clear hk); (try clear hi); (try clear ho0)))
  (try simp only [Act.put, List.setIfInBounds_toArray, List.set_cons_zero, List.set_cons_succ])
  go_cut [25] (fun v25 wc => ∃ (kq : Nat) (x25_4 : Bool), v25 = .bool x25_4 ∧ Aside0 (tithebarnlaw17_LevelsOrder.j0 kq t432 x25_4 = some r) ∧ Aside0 (kq ≤ k) ∧ Aside0 (Kd.V k38 38 wc w.heap.size (fun _ => True) v433 t432) ∧ Aside0 (Below w.heap.size w wc))
  case first =>
   have H := HC5.out
   clear HC5
   replace H := Option.bind_eq_some_iff.mp H
   obtain ⟨t435, A80, H⟩ := H
   replace H : (if t435 = true then ((levels_Disjoint.f k t432).bind fun t436 => (if t436 = true then ((tithebarnlaw17_well.f k t432).bind fun t437 => (tithebarnlaw17_LevelsOrder.j0 k t432 (!t437))) else (tithebarnlaw17_LevelsOrder.j0 k t432 true))) else (tithebarnlaw17_LevelsOrder.j0 k t432 true)) = some r := H
   have A8 := Aside0.mk A80
   clear A80
   by_cases c9 : t435 = true
   ·subst c9
    have H1 : ((levels_Disjoint.f k t432).bind fun t436 => (if t436 = true then ((tithebarnlaw17_well.f k t432).bind fun t437 => (tithebarnlaw17_LevelsOrder.j0 k t432 (!t437))) else (tithebarnlaw17_LevelsOrder.j0 k t432 true))) = some r := by rw [if_pos rfl] at H; exact H
    clear H
    have H := H1
    clear H1
    replace H := Option.bind_eq_some_iff.mp H
    obtain ⟨t436, A100, H⟩ := H
    replace H : (if t436 = true then ((tithebarnlaw17_well.f k t432).bind fun t437 => (tithebarnlaw17_LevelsOrder.j0 k t432 (!t437))) else (tithebarnlaw17_LevelsOrder.j0 k t432 true)) = some r := H
    have A10 := Aside0.mk A100
    clear A100
    by_cases c11 : t436 = true
    ·subst c11
     have H1 : ((tithebarnlaw17_well.f k t432).bind fun t437 => (tithebarnlaw17_LevelsOrder.j0 k t432 (!t437))) = some r := by rw [if_pos rfl] at H; exact H
     clear H
     have H := H1
     clear H1
     replace H := Option.bind_eq_some_iff.mp H
     obtain ⟨t437, A120, H⟩ := H
     replace H : (tithebarnlaw17_LevelsOrder.j0 k t432 (!t437)) = some r := H
     have A12 := Aside0.mk A120
     clear A120
     have H' := Aside0.mk H
     clear H
     obtain ⟨Ao13, co13, eo13⟩ := Kd.V_slice HO434.out
     subst eo13
     go_wp2_with (first | ((with_reducible refine gate_callee (f := 17) rfl ?_); refine goesL_ (some 14) rfl rfl Try.func17 (by kernel_rfl) rfl #[.slice Ao13 t432.length co13] rfl (by (try simp only [List.map_toArray, List.map_cons, List.map_nil]); first | done | rfl | (simp only [List.length_drop, List.length_take]; rfl)) ?_; (with_reducible refine (tithebarnlaw17_unlike.calls k _ _ t432 true _ ?side1 ?side2 A8.out).mono ?_); (case side1 => repeat (first | exact (Kd.V_reads' HO434.out).2.2 | (with_reducible refine Kd.C_alloc ?_ _) | (with_reducible refine Kd.C_drewN ?_ _) | (with_reducible refine Kd.C_drew ?_))); (case side2 => exact (Kd.V_reads' HO434.out).2.1); rintro e w' ⟨rfl, ⟨nd, rfl⟩⟩; refine ⟨_, rfl, ?_⟩) | (go_at_call 13; (with_reducible refine (levels_Disjoint.calls k _ _ t432 true _ ?side1 ?side2 A10.out).mono ?_); (case side1 => repeat (first | exact (Kd.V_reads' HO434.out).2.2 | (with_reducible refine Kd.C_alloc ?_ _) | (with_reducible refine Kd.C_drewN ?_ _) | (with_reducible refine Kd.C_drew ?_))); (case side2 => exact (Kd.V_reads' HO434.out).2.1); rintro e w14 ⟨rfl, hb⟩; have n0_ := Aside0.mk (Kd.V_below (by (with_reducible repeat (first | apply Kd.V_alloc | apply Kd.V_drewN | apply Kd.V_drew)); exact HO434.out) hb); have n1_ := Aside0.mk (below_step (by with_reducible repeat first | exact HB.out | apply below_alloc | apply pw_below_drewN | apply below_drew1) hb); clear HO434; clear HB; have HO434 := n0_; have HB := n1_; clear n0_ n1_; (try clear hb); (try clear hb2); (try clear hk); (try clear hi)) | (go_at_call 22; (with_reducible refine (tithebarnlaw17_well.calls k _ _ t432 t437 _ ?side1 ?side2 A12.out).mono ?_); (case side1 => repeat (first | exact (Kd.V_reads' HO434.out).2.2 | (with_reducible refine Kd.C_alloc ?_ _) | (with_reducible refine Kd.C_drewN ?_ _) | (with_reducible refine Kd.C_drew ?_))); (case side2 => exact (Kd.V_reads' HO434.out).2.1); rintro e w15 ⟨rfl, hb⟩; have n0_ := Aside0.mk (Kd.V_below (by (with_reducible repeat (first | apply Kd.V_alloc | apply Kd.V_drewN | apply Kd.V_drew)); exact HO434.out) hb); have n1_ := Aside0.mk (below_step (by with_reducible repeat first | exact HB.out | apply below_alloc | apply pw_below_drewN | apply below_drew1) hb); clear HO434; clear HB; have HO434 := n0_; have HB := n1_; clear n0_ n1_; (try clear hb); (try clear hb2); (try clear hk); (try clear hi)))
     go_meet
     case rel => exact ⟨_, (!t437), (by first | rfl | (simp; done) | (simp [*]; done)), H', ⟨by first | omega | exact Nat.le_refl _⟩, ⟨by (with_reducible repeat (first | apply Kd.V_alloc | apply Kd.V_drewN | apply Kd.V_drew)); exact HO434.out⟩, ⟨by repeat (first | (with_reducible first | exact HB.out | apply below_alloc | apply pw_below_drewN | apply below_drew1) | exact HB.out)⟩⟩
    ·replace c11 := Bool.eq_false_iff.mpr c11
     subst c11
     have H1 : (tithebarnlaw17_LevelsOrder.j0 k t432 true) = some r := by rw [if_neg (show ¬ (false = true) by decide)] at H; exact H
     clear H
     have H := H1
     clear H1
     have H' := Aside0.mk H
     clear H
     obtain ⟨Ao16, co16, eo16⟩ := Kd.V_slice HO434.out
     subst eo16
     go_wp2_with (first | ((with_reducible refine gate_callee (f := 17) rfl ?_); refine goesL_ (some 14) rfl rfl Try.func17 (by kernel_rfl) rfl #[.slice Ao16 t432.length co16] rfl (by (try simp only [List.map_toArray, List.map_cons, List.map_nil]); first | done | rfl | (simp only [List.length_drop, List.length_take]; rfl)) ?_; (with_reducible refine (tithebarnlaw17_unlike.calls k _ _ t432 true _ ?side1 ?side2 A8.out).mono ?_); (case side1 => repeat (first | exact (Kd.V_reads' HO434.out).2.2 | (with_reducible refine Kd.C_alloc ?_ _) | (with_reducible refine Kd.C_drewN ?_ _) | (with_reducible refine Kd.C_drew ?_))); (case side2 => exact (Kd.V_reads' HO434.out).2.1); rintro e w' ⟨rfl, ⟨nd, rfl⟩⟩; refine ⟨_, rfl, ?_⟩) | (go_at_call 13; (with_reducible refine (levels_Disjoint.calls k _ _ t432 false _ ?side1 ?side2 A10.out).mono ?_); (case side1 => repeat (first | exact (Kd.V_reads' HO434.out).2.2 | (with_reducible refine Kd.C_alloc ?_ _) | (with_reducible refine Kd.C_drewN ?_ _) | (with_reducible refine Kd.C_drew ?_))); (case side2 => exact (Kd.V_reads' HO434.out).2.1); rintro e w17 ⟨rfl, hb⟩; have n0_ := Aside0.mk (Kd.V_below (by (with_reducible repeat (first | apply Kd.V_alloc | apply Kd.V_drewN | apply Kd.V_drew)); exact HO434.out) hb); have n1_ := Aside0.mk (below_step (by with_reducible repeat first | exact HB.out | apply below_alloc | apply pw_below_drewN | apply below_drew1) hb); clear HO434; clear HB; have HO434 := n0_; have HB := n1_; clear n0_ n1_; (try clear hb); (try clear hb2); (try clear hk); (try clear hi)))
     go_meet
     case rel => exact ⟨_, (true), (by first | rfl | (simp; done) | (simp [*]; done)), H', ⟨by first | omega | exact Nat.le_refl _⟩, ⟨by (with_reducible repeat (first | apply Kd.V_alloc | apply Kd.V_drewN | apply Kd.V_drew)); exact HO434.out⟩, ⟨by repeat (first | (with_reducible first | exact HB.out | apply below_alloc | apply pw_below_drewN | apply below_drew1) | exact HB.out)⟩⟩
   ·replace c9 := Bool.eq_false_iff.mpr c9
    subst c9
    have H1 : (tithebarnlaw17_LevelsOrder.j0 k t432 true) = some r := by rw [if_neg (show ¬ (false = true) by decide)] at H; exact H
    clear H
    have H := H1
    clear H1
    have H' := Aside0.mk H
    clear H
    obtain ⟨Ao18, co18, eo18⟩ := Kd.V_slice HO434.out
    subst eo18
    go_wp2_with (first | ((with_reducible refine gate_callee (f := 17) rfl ?_); refine goesL_ (some 14) rfl rfl Try.func17 (by kernel_rfl) rfl #[.slice Ao18 t432.length co18] rfl (by (try simp only [List.map_toArray, List.map_cons, List.map_nil]); first | done | rfl | (simp only [List.length_drop, List.length_take]; rfl)) ?_; (with_reducible refine (tithebarnlaw17_unlike.calls k _ _ t432 false _ ?side1 ?side2 A8.out).mono ?_); (case side1 => repeat (first | exact (Kd.V_reads' HO434.out).2.2 | (with_reducible refine Kd.C_alloc ?_ _) | (with_reducible refine Kd.C_drewN ?_ _) | (with_reducible refine Kd.C_drew ?_))); (case side2 => exact (Kd.V_reads' HO434.out).2.1); rintro e w' ⟨rfl, ⟨nd, rfl⟩⟩; refine ⟨_, rfl, ?_⟩))
    go_meet
    case rel => exact ⟨_, (true), (by first | rfl | (simp; done) | (simp [*]; done)), H', ⟨by first | omega | exact Nat.le_refl _⟩, ⟨by (with_reducible repeat (first | apply Kd.V_alloc | apply Kd.V_drewN | apply Kd.V_drew)); exact HO434.out⟩, ⟨by repeat (first | (with_reducible first | exact HB.out | apply below_alloc | apply pw_below_drewN | apply below_drew1) | exact HB.out)⟩⟩
  case rest =>
   clear HC5
   try clear c1
   try clear p2
   try clear c3
   try clear c6
   try clear c8
   try clear c9
   try clear c11
   try clear c17
   obtain ⟨kq, x25_4, rfl, HA, HJ4, HO_0, HB⟩ := hcut
   cases kq with
   | zero => exact absurd HA.out (by simp [tithebarnlaw17_LevelsOrder.j0])
   | succ kj4 =>
    have H := HA.out
    clear HA
    simp only [tithebarnlaw17_LevelsOrder.j0] at H
    by_cases c19 : x25_4 = true
    ·subst c19
     have H1 : (some true) = some r := by rw [if_pos rfl] at H; exact H
     clear H
     have H := H1
     clear H1
     obtain rfl := Option.some.inj H
     go_wp2
     go_ret
     exact ⟨by first | rfl | (simp [errW_none, errW_some] <;> rfl) | (simp [*, errW_none, errW_some] <;> rfl), by repeat (first | (with_reducible first | exact HB.out | apply below_alloc | apply pw_below_drewN | apply below_drew1) | exact HB.out)⟩
    ·replace c19 := Bool.eq_false_iff.mpr c19
     subst c19
     have H1 : (tithebarnlaw17_LevelsOrder.l0 kj4 t432 ([] : List (S38)) (wrap64 ((t432.length : Int) - 1))) = some r := by rw [if_neg (show ¬ (false = true) by decide)] at H; exact H
     clear H
     have H := H1
     clear H1
     have H' := Aside0.mk H
     clear H
     obtain ⟨Ao20, co20, eo20⟩ := Kd.V_slice HO_0.out
     subst eo20
     go_wp2
     go_loopg [3, 4] kj4 (fun kq v3 v4 w' => ∃ (x3_2 : List (S38)) (x4_2 : Int), v4 = .int .i64 x4_2 ∧ Aside0 (tithebarnlaw17_LevelsOrder.l0 kq t432 x3_2 x4_2 = some r) ∧ Aside0 (kq ≤ kj4) ∧ Aside0 (Kd.V k38 38 w' w.heap.size (fun k_ => some k_ ≠ (v3 : Value).ownBlock) (.slice Ao20 t432.length co20) t432) ∧ Aside0 (Kd.R k38 38 w' w.heap.size (fun _ => True) v3 x3_2) ∧ Aside0 (Below w.heap.size w w'))
     case atStart => exact ⟨(([] : List (S38))), (wrap64 ((t432.length : Int) - 1)), (by first | rfl | (simp; done) | (simp [*]; done)), H', ⟨Nat.le_refl _⟩, ⟨by (with_reducible repeat (first | apply Kd.V_alloc | apply Kd.V_drewN | apply Kd.V_drew)); exact Kd.V_mono HO_0.out (fun _ hk => (by simp [Value.ownBlock]))⟩, ⟨by first | exact Kd.R_nil _ _ _ _ _ | exact Kd.N_nil _ _ _ _ _ | exact Kd.V_nil _ _ _ _ _ | exact Kd.Q_nil _ _ _ _ _ | exact Kd.S_nil _ _ _ _ _⟩, ⟨by repeat (first | (with_reducible first | exact HB.out | apply below_alloc | apply pw_below_drewN | apply below_drew1) | exact HB.out)⟩⟩
     case round =>
      clear H'
      try clear c1
      try clear p2
      try clear c3
      try clear c6
      try clear p6
      try clear c8
      try clear c9
      try clear c11
      try clear c17
      try clear c19
      try clear p2
      obtain ⟨x3_2, x4_2, rfl, HA, HK2, HO_0, HO_3, HB⟩ := hrel
      cases gk with
      | zero => exact absurd HA.out (by simp [tithebarnlaw17_LevelsOrder.l0])
      | succ k2 =>
       have H := HA.out
       clear HA
       simp only [tithebarnlaw17_LevelsOrder.l0] at H
       by_cases c21 : x4_2 ≥ 0
       ·rw [if_pos c21] at H
        have c21b0 : decide (0 ≤ x4_2) = true := decide_eq_true c21
        clear c21
        by_cases c22 : 0 ≤ x4_2
        ·rw [if_pos c22] at H
         have c22b0 : decide (0 ≤ x4_2) = true := decide_eq_true c22
         clear c22
         by_cases c23 : x4_2 < (t432.length : Int)
         ·rw [if_pos c23] at H
          have c23b0 : decide (x4_2 < (t432.length : Int)) = true := decide_eq_true c23
          clear c23
          by_cases c24 : x3_2.length < 1759218604441
          ·rw [if_pos c24] at H
           have LMc24 := Aside0.mk c24
           clear c24
           obtain ⟨y439, hy439⟩ : ∃ y_ : List (S38), y_ = (x3_2 ++ [(⟨(rd_T38 t432 x4_2).f0, (rd_T38 t432 x4_2).f1, (⟨(rd_T38 t432 x4_2).f2.f0, (rd_T38 t432 x4_2).f2.f1, (rd_T38 t432 x4_2).f2.f2⟩ : S36), (⟨(rd_T38 t432 x4_2).f3.f0, (rd_T38 t432 x4_2).f3.f1, (rd_T38 t432 x4_2).f3.f2⟩ : S36)⟩ : S38)]) := ⟨_, rfl⟩
           replace H : (tithebarnlaw17_LevelsOrder.l0 k2 t432 y439 (wrap64 (x4_2 - 1))) = some r := by first | (rw [hy439]; with_reducible exact H) | (have H2_ := (Option.bind_some _ _).symm.trans H; rw [hy439]; with_reducible exact H2_) | (have H2_ := (Option.bind_some _ _).symm.trans H; with_reducible exact H2_) | with_reducible exact H | (rw [hy439]; exact H) | exact H
           have Ny439 := Aside0.mk hy439
           clear hy439
           have H' := Aside0.mk H
           clear H
           have p438 : 0 ≤ (x4_2 : Int) := of_decide_eq_true (by with_reducible assumption)
           have q438 : x4_2 < (t432.length : Int) := of_decide_eq_true (by with_reducible assumption)
           obtain ⟨ad438, e438, hx438_0, hx438_1, hx438_2, hx438_3, hx438_4, hx438_5, hx438_6, hx438_7⟩ := at_T38 (Kd.V_reads' HO_0.out).2.2 x4_2 p438 q438
           cases e438
           replace p438 := eq_true p438
           replace q438 := eq_true q438
           go_wp2_with (first | ((with_reducible refine gate_builtin (b := .append) (xs := #[.tmp 33, .tmp 38]) rfl ?_); at_builtin; refine Kd.R_append k38 (w0 := w) w.heap.size rfl (.tmp 33) (.tmp 38) 22 38 (.agg #[(.int .i64 0), (.int .i64 0), (.bool false), (.int .i64 0), (.string ⟨#[]⟩), (.bool false), (.int .i64 0), (.string ⟨#[]⟩)]) 80 rfl Try.underlying22 info38 rfl (by decide) (by omega) u3 x3_2 (⟨(rd_T38 t432 x4_2).f0, (rd_T38 t432 x4_2).f1, (⟨(rd_T38 t432 x4_2).f2.f0, (rd_T38 t432 x4_2).f2.f1, (rd_T38 t432 x4_2).f2.f2⟩ : S36), (⟨(rd_T38 t432 x4_2).f3.f0, (rd_T38 t432 x4_2).f3.f1, (rd_T38 t432 x4_2).f3.f2⟩ : S36)⟩ : S38) [.int .i64 ((rd_T38 t432 x4_2).f0), .int .i64 ((rd_T38 t432 x4_2).f1), .bool ((rd_T38 t432 x4_2).f2.f0), .int .i64 ((rd_T38 t432 x4_2).f2.f1), .string ((rd_T38 t432 x4_2).f2.f2), .bool ((rd_T38 t432 x4_2).f3.f0), .int .i64 ((rd_T38 t432 x4_2).f3.f1), .string ((rd_T38 t432 x4_2).f3.f2)] (fun _ => True) (fun _ => False) rfl rfl ?aP (fun _ hk => hk.elim) ?aF ?aO ?aB ?aS ?aL ?_; (case aP => exact k38_mkM _ _ _ (⟨(rd_T38 t432 x4_2).f0, (rd_T38 t432 x4_2).f1, (⟨(rd_T38 t432 x4_2).f2.f0, (rd_T38 t432 x4_2).f2.f1, (rd_T38 t432 x4_2).f2.f2⟩ : S36), (⟨(rd_T38 t432 x4_2).f3.f0, (rd_T38 t432 x4_2).f3.f1, (rd_T38 t432 x4_2).f3.f2⟩ : S36)⟩ : S38)); (case aB => exact (by with_reducible repeat first | exact HB.out | apply below_alloc | apply pw_below_drewN | apply below_drew1)); (case aF => exact (fun _ _ => trivial)); (case aO => exact (by (with_reducible repeat (first | apply Kd.R_alloc | apply Kd.R_drewN | apply Kd.R_drew)); exact HO_3.out)); (case aS => exact (below_size (by with_reducible repeat first | exact HB.out | apply below_alloc | apply pw_below_drewN | apply below_drew1))); (case aL => have := LMc24.out; omega); intro v440 w25 ho hb hg hat; rw [← Ny439.out] at ho; have n0_ := Aside0.mk (Kd.V_afterv (ok := (fun _ => True)) (by (with_reducible repeat (first | apply Kd.V_alloc | apply Kd.V_drewN | apply Kd.V_drew)); exact Kd.V_mono HO_0.out (fun _ hk => ⟨trivial, hk⟩)) hg hat); have n1_ := Aside0.mk (hb); have n2_ := Aside0.mk (ho); clear HO_0; clear HB; clear HO_3; have HO_0 := n0_; have HB := n1_; have HO441 := n2_; clear n0_ n1_ n2_; clear ho hb hg hat))
           go_roundg k2
           case measure => have := HJ4.out; have := HK2.out; omega
           case rel => exact ⟨(y439), (wrap64 (x4_2 - 1)), (by first | rfl | (simp; done) | (simp [*]; done)), H', ⟨by have := HJ4.out; have := HK2.out; omega⟩, ⟨by (with_reducible repeat (first | apply Kd.V_alloc | apply Kd.V_drewN | apply Kd.V_drew)); exact Kd.V_mono HO_0.out (fun _ hk => hk.2)⟩, ⟨by (with_reducible repeat (first | apply Kd.R_alloc | apply Kd.R_drewN | apply Kd.R_drew)); exact HO441.out⟩, ⟨by repeat (first | (with_reducible first | exact HB.out | apply below_alloc | apply pw_below_drewN | apply below_drew1) | exact HB.out)⟩⟩
          ·rw [if_neg c24] at H
           exact absurd H (by simp)
         ·rw [if_neg c23] at H
          exact absurd H (by simp)
        ·rw [if_neg c22] at H
         exact absurd H (by simp)
       ·rw [if_neg c21] at H
        have c21b0 : decide (0 ≤ x4_2) = false := decide_eq_false c21
        clear c21
        replace H := Option.bind_eq_some_iff.mp H
        obtain ⟨⟨t442, t443, t444, t447, t448⟩, A260, H⟩ := H
        replace H : ((levels_Pick.f x3_2).bind fun bt450 => (if (t448 == bt450.2.2.2.2) = true then ((tithebarnlaw17_same.f k2 t442 t443 t444 t447 bt450.1 bt450.2.1 bt450.2.2.1 bt450.2.2.2.1).bind fun t458 => (some t458)) else (some false))) = some r := H
        have A26 := Aside0.mk A260
        clear A260
        replace H := Option.bind_eq_some_iff.mp H
        obtain ⟨⟨t450, t451, t452, t455, t456⟩, A270, H⟩ := H
        replace H : (if (t448 == t456) = true then ((tithebarnlaw17_same.f k2 t442 t443 t444 t447 t450 t451 t452 t455).bind fun t458 => (some t458)) else (some false)) = some r := H
        have A27 := Aside0.mk A270
        clear A270
        by_cases c28 : (t448 == t456) = true
        ·rw [if_pos c28] at H
         have c28b0 : (t448 == t456) = true := c28
         (try (have c28b1 : decide (t448 = t456) = true := by simpa using c28))
         (try (have c28b2 : (t448 == t456) = true := by simpa using c28))
         clear c28
         replace H := Option.bind_eq_some_iff.mp H
         obtain ⟨t458, A290, H⟩ := H
         replace H : (some t458) = some r := H
         have A29 := Aside0.mk A290
         clear A290
         obtain rfl := Option.some.inj H
         go_wp2_with (first | ((with_reducible refine gate_callee (f := 10) rfl ?_); refine goesL_ (some 42) rfl rfl Try.func10 (by kernel_rfl) rfl #[.slice Ao20 t432.length co20] rfl (by (try simp only [List.map_toArray, List.map_cons, List.map_nil]); first | done | rfl | (simp only [List.length_drop, List.length_take]; rfl)) ?_; (with_reducible refine (levels_Pick.calls _ _ t432 t442 t443 t444 t447 t448 _ ?side1 ?side2 A26.out).mono ?_); (case side1 => repeat (first | exact (Kd.V_reads' HO_0.out).2.2 | (with_reducible refine Kd.C_alloc ?_ _) | (with_reducible refine Kd.C_drewN ?_ _) | (with_reducible refine Kd.C_drew ?_))); (case side2 => exact (Kd.V_reads' HO_0.out).2.1); rintro e w30 ⟨v445, rfl, ho0, hb⟩; refine ⟨_, rfl, ?_⟩; have n0_ := Aside0.mk (Kd.V_elder' (by (with_reducible repeat (first | apply Kd.V_alloc | apply Kd.V_drewN | apply Kd.V_drew)); exact HO_0.out) (Kd.R_base ho0) hb); have n1_ := Aside0.mk (Kd.R_below (by (with_reducible repeat (first | apply Kd.R_alloc | apply Kd.R_drewN | apply Kd.R_drew)); exact HO_3.out) hb); have n2_ := Aside0.mk (Kd.R_lower ho0 (below_size (by with_reducible repeat first | exact HB.out | apply below_alloc | apply pw_below_drewN | apply below_drew1))); have n3_ := Aside0.mk (below_step (by with_reducible repeat first | exact HB.out | apply below_alloc | apply pw_below_drewN | apply below_drew1) hb); clear HO_0; clear HO_3; clear HB; have HO_0 := n0_; have HO_3 := n1_; have HO446 := n2_; have HB := n3_; clear n0_ n1_ n2_ n3_; (try clear hb); (try clear hb2); (try clear hk); (try clear hi); (try clear ho0)) | ((with_reducible refine gate_dst (N := 5) rfl ?_); refine box_event ?hg (N := 5) ?hd (cs := #[.int .i64 0, .int .i64 0, .slice none 0 0, .bool false]) (t := 27) ?hr ?_; (case hd => rfl); (case hg => rfl); (case hr => first | (go_simp; done) | (go_simp; rfl)); intro gb449 hg w31 hbox hb; have n0_ := Aside0.mk (Kd.V_below (Kd.V_elderB (by (with_reducible repeat (first | apply Kd.V_alloc | apply Kd.V_drewN | apply Kd.V_drew)); exact HO_0.out) gb449 (Nat.le_of_eq hg.symm)) hb); have n1_ := Aside0.mk (Kd.R_below (by (with_reducible repeat (first | apply Kd.R_alloc | apply Kd.R_drewN | apply Kd.R_drew)); exact HO_3.out) hb); have n2_ := Aside0.mk (Kd.R_below (by (with_reducible repeat (first | apply Kd.R_alloc | apply Kd.R_drewN | apply Kd.R_drew)); exact HO446.out) hb); have n3_ := Aside0.mk (below_step (by with_reducible repeat first | exact HB.out | apply below_alloc | apply pw_below_drewN | apply below_drew1) hb); have n4_ := Aside0.mk (hbox); have n5_ := Aside0.mk ((by rw [hg]; exact (below_size (by with_reducible repeat first | exact HB.out | apply below_alloc | apply pw_below_drewN | apply below_drew1)) : w.heap.size ≤ gb449)); have n6_ := Aside0.mk ((by rw [hg]; exact (below_size (by with_reducible repeat first | exact HB.out | apply below_alloc | apply pw_below_drewN | apply below_drew1)) : w.heap.size ≤ gb449)); clear HO_0; clear HO_3; clear HO446; clear HB; have HO_0 := n0_; have HO_3 := n1_; have HO446 := n2_; have HB := n3_; have BK449 := n4_; have GW449 := n5_; have GE449 := n6_; clear n0_ n1_ n2_ n3_ n4_ n5_ n6_; clear hb hbox hg; obtain ⟨hcz32_0, hcz32_1, hcz32_2, hcz32_3⟩ := bc4 BK449.out; obtain ⟨hfz32_0, hfz32_1, hfz32_2, hfz32_3⟩ := bf4 BK449.out; obtain ⟨Ao33, co33, eo33⟩ := Kd.R_slice HO446.out; subst eo33; obtain ⟨Ao34, co34, eo34⟩ := Kd.R_slice HO_3.out; subst eo34) | ((with_reducible refine gate_callee (f := 10) rfl ?_); refine goesL_ (some 47) rfl rfl Try.func10 (by kernel_rfl) rfl #[.slice Ao34 x3_2.length co34] rfl (by (try simp only [List.map_toArray, List.map_cons, List.map_nil]); first | done | rfl | (simp only [List.length_drop, List.length_take]; rfl)) ?_; (with_reducible refine (levels_Pick.calls _ _ x3_2 t450 t451 t452 t455 t456 _ ?side1 ?side2 A27.out).mono ?_); (case side1 => refine (Kd.R_reads' (e := 38) (base := w.heap.size) (ok := fun k_ => True) (n := x3_2.length) (c := co34) ?_).2.2; exact (by (with_reducible repeat (first | apply Kd.R_alloc | apply Kd.R_drewN | apply Kd.R_drew)); exact (Kd.R_mono (Kd.R_far (p := ⟨gb449, 3, none⟩) (Kd.R_far (p := ⟨gb449, 2, none⟩) (Kd.R_far (p := ⟨gb449, 1, none⟩) (Kd.R_far (p := ⟨gb449, 0, none⟩) (Kd.R_types HO_3.out BK449.out (by decide)) (fun _ hk => hk.2) (.int .i64 t442)) (fun _ hk => hk.2) (.int .i64 t443)) (fun _ hk => hk.2) (.slice Ao33 t444.length co33)) (fun _ hk => hk.2) (.bool t447)) (fun _ h_ => h_.1)))); (case side2 => exact (Kd.R_reads' HO_3.out).2.1); rintro e w35 ⟨v453, rfl, ho0, hb⟩; refine ⟨_, rfl, ?_⟩; have n0_ := Aside0.mk (Kd.V_elder' (by (with_reducible repeat (first | apply Kd.V_alloc | apply Kd.V_drewN | apply Kd.V_drew)); exact (Kd.V_mono (Kd.V_far (p := ⟨gb449, 3, none⟩) (Kd.V_far (p := ⟨gb449, 2, none⟩) (Kd.V_far (p := ⟨gb449, 1, none⟩) (Kd.V_far (p := ⟨gb449, 0, none⟩) (Kd.V_mono HO_0.out (fun k_ hk => (⟨hk, hk.2⟩ : _ ∧ k_ ≠ gb449))) (fun _ hk => hk.2) (.int .i64 t442)) (fun _ hk => hk.2) (.int .i64 t443)) (fun _ hk => hk.2) (.slice Ao33 t444.length co33)) (fun _ hk => hk.2) (.bool t447)) (fun _ h_ => h_.1))) (Kd.R_base ho0) hb); have n1_ := Aside0.mk (Kd.R_below (by (with_reducible repeat (first | apply Kd.R_alloc | apply Kd.R_drewN | apply Kd.R_drew)); exact (Kd.R_mono (Kd.R_far (p := ⟨gb449, 3, none⟩) (Kd.R_far (p := ⟨gb449, 2, none⟩) (Kd.R_far (p := ⟨gb449, 1, none⟩) (Kd.R_far (p := ⟨gb449, 0, none⟩) (Kd.R_types HO_3.out BK449.out (by decide)) (fun _ hk => hk.2) (.int .i64 t442)) (fun _ hk => hk.2) (.int .i64 t443)) (fun _ hk => hk.2) (.slice Ao33 t444.length co33)) (fun _ hk => hk.2) (.bool t447)) (fun _ h_ => h_.1))) hb); have n2_ := Aside0.mk (Kd.R_elder' (by (with_reducible repeat (first | apply Kd.R_alloc | apply Kd.R_drewN | apply Kd.R_drew)); exact (Kd.R_mono (Kd.R_far (p := ⟨gb449, 3, none⟩) (Kd.R_far (p := ⟨gb449, 2, none⟩) (Kd.R_far (p := ⟨gb449, 1, none⟩) (Kd.R_far (p := ⟨gb449, 0, none⟩) (Kd.R_types HO446.out BK449.out (by decide)) (fun _ hk => hk.2) (.int .i64 t442)) (fun _ hk => hk.2) (.int .i64 t443)) (fun _ hk => hk.2) (.slice Ao33 t444.length co33)) (fun _ hk => hk.2) (.bool t447)) (fun _ h_ => h_.1))) (Kd.R_base ho0) hb); have n3_ := Aside0.mk (Kd.R_lower (Kd.R_new' ho0 (Kd.R_lt (by (with_reducible repeat (first | apply Kd.R_alloc | apply Kd.R_drewN | apply Kd.R_drew)); exact (Kd.R_mono (Kd.R_far (p := ⟨gb449, 3, none⟩) (Kd.R_far (p := ⟨gb449, 2, none⟩) (Kd.R_far (p := ⟨gb449, 1, none⟩) (Kd.R_far (p := ⟨gb449, 0, none⟩) (Kd.R_types HO446.out BK449.out (by decide)) (fun _ hk => hk.2) (.int .i64 t442)) (fun _ hk => hk.2) (.int .i64 t443)) (fun _ hk => hk.2) (.slice Ao33 t444.length co33)) (fun _ hk => hk.2) (.bool t447)) (fun _ h_ => h_.1))))) (below_size (by with_reducible repeat first | exact HB.out | apply below_alloc | apply pw_below_drewN | apply below_drew1 | refine below_set ?_ GE449.out))); have n4_ := Aside0.mk (blk_below (g := gb449) (o := .cells #[.int .i64 t442, .int .i64 t443, .slice Ao33 t444.length co33, .bool t447] 27 (0, 0)) (by refine blk_put (cs := #[.int .i64 t442, .int .i64 t443, .slice Ao33 t444.length co33, .bool false]) ?_ 3 _ rfl; refine blk_put (cs := #[.int .i64 t442, .int .i64 t443, .slice none 0 0, .bool false]) ?_ 2 _ rfl; refine blk_put (cs := #[.int .i64 t442, .int .i64 0, .slice none 0 0, .bool false]) ?_ 1 _ rfl; refine blk_put (cs := #[.int .i64 0, .int .i64 0, .slice none 0 0, .bool false]) ?_ 0 _ rfl; (with_reducible repeat (first | refine blk_drewN ?_ _ | refine blk_drew ?_ | refine blk_alloc ?_ _)); exact BK449.out) hb); have n5_ := Aside0.mk (below_step (by with_reducible repeat first | exact HB.out | apply below_alloc | apply pw_below_drewN | apply below_drew1 | refine below_set ?_ GE449.out) hb); clear HO_0; clear HO_3; clear HO446; clear BK449; clear HB; have HO_0 := n0_; have HO_3 := n1_; have HO446 := n2_; have HO454 := n3_; have BK449 := n4_; have HB := n5_; clear n0_ n1_ n2_ n3_ n4_ n5_; (try clear hb); (try clear hb2); (try clear hk); (try clear hi); (try clear ho0)) | ((with_reducible refine gate_dst (N := 7) rfl ?_); refine box_event ?hg (N := 7) ?hd (cs := #[.int .i64 0, .int .i64 0, .slice none 0 0, .bool false]) (t := 27) ?hr ?_; (case hd => rfl); (case hg => rfl); (case hr => first | (go_simp; done) | (go_simp; rfl)); intro gb457 hg w36 hbox hb; have n0_ := Aside0.mk (Kd.V_below (Kd.V_elderB (by (with_reducible repeat (first | apply Kd.V_alloc | apply Kd.V_drewN | apply Kd.V_drew)); exact HO_0.out) gb457 (Nat.le_of_eq hg.symm)) hb); have n1_ := Aside0.mk (Kd.R_below (by (with_reducible repeat (first | apply Kd.R_alloc | apply Kd.R_drewN | apply Kd.R_drew)); exact HO_3.out) hb); have n2_ := Aside0.mk (Kd.R_below (by (with_reducible repeat (first | apply Kd.R_alloc | apply Kd.R_drewN | apply Kd.R_drew)); exact HO446.out) hb); have n3_ := Aside0.mk (Kd.R_below (by (with_reducible repeat (first | apply Kd.R_alloc | apply Kd.R_drewN | apply Kd.R_drew)); exact HO454.out) hb); have n4_ := Aside0.mk (blk_below (g := gb449) (o := .cells #[.int .i64 t442, .int .i64 t443, .slice Ao33 t444.length co33, .bool t447] 27 (0, 0)) (by (with_reducible repeat (first | refine blk_drewN ?_ _ | refine blk_drew ?_ | refine blk_alloc ?_ _)); exact BK449.out) hb); have n5_ := Aside0.mk (below_step (by with_reducible repeat first | exact HB.out | apply below_alloc | apply pw_below_drewN | apply below_drew1 | refine below_set ?_ GE449.out) hb); have n6_ := Aside0.mk (hbox); have n7_ := Aside0.mk ((by rw [hg]; exact (below_size (by with_reducible repeat first | exact HB.out | apply below_alloc | apply pw_below_drewN | apply below_drew1 | refine below_set ?_ GE449.out)) : w.heap.size ≤ gb457)); have n8_ := Aside0.mk ((by rw [hg]; exact (below_size (by with_reducible repeat first | exact HB.out | apply below_alloc | apply pw_below_drewN | apply below_drew1 | refine below_set ?_ GE449.out)) : w.heap.size ≤ gb457)); have n9_ := Aside0.mk ((by rw [hg]; exact Nat.ne_of_lt (blk_lt (g := gb449) (o := .cells #[.int .i64 t442, .int .i64 t443, .slice Ao33 t444.length co33, .bool t447] 27 (0, 0)) (by (with_reducible repeat (first | refine blk_drewN ?_ _ | refine blk_drew ?_ | refine blk_alloc ?_ _)); exact BK449.out)) : gb449 ≠ gb457)); have n10_ := Aside0.mk ((by rw [hg]; exact Nat.ne_of_gt (blk_lt (g := gb449) (o := .cells #[.int .i64 t442, .int .i64 t443, .slice Ao33 t444.length co33, .bool t447] 27 (0, 0)) (by (with_reducible repeat (first | refine blk_drewN ?_ _ | refine blk_drew ?_ | refine blk_alloc ?_ _)); exact BK449.out)) : gb457 ≠ gb449)); clear HO_0; clear HO_3; clear HO446; clear HO454; clear BK449; clear HB; have HO_0 := n0_; have HO_3 := n1_; have HO446 := n2_; have HO454 := n3_; have BK449 := n4_; have HB := n5_; have BK457 := n6_; have GW457 := n7_; have GE457 := n8_; have NB449_457 := n9_; have NB457_449 := n10_; clear n0_ n1_ n2_ n3_ n4_ n5_ n6_ n7_ n8_ n9_ n10_; clear hb hbox hg; have hnb37 := NB457_449.out; have hnc37 := NB449_457.out; obtain ⟨hcz38_0, hcz38_1, hcz38_2, hcz38_3⟩ := bc4 BK457.out; obtain ⟨hfz38_0, hfz38_1, hfz38_2, hfz38_3⟩ := bf4 BK457.out; obtain ⟨Ao39, co39, eo39⟩ := Kd.R_slice HO454.out; subst eo39; obtain ⟨hcz40_0, hcz40_1, hcz40_2, hcz40_3⟩ := bc4 BK449.out; obtain ⟨hfz40_0, hfz40_1, hfz40_2, hfz40_3⟩ := bf4 BK449.out) | (go_at_call 12; (with_reducible refine (tithebarnlaw17_same.calls k2 t442 t443 _ _ t444 t447 t450 t451 _ _ t452 t455 t458 _ ?side1 ?side2 ?side3 ?side4 A29.out).mono ?_); (case side1 => refine (Kd.R_reads' (e := 3) (base := w.heap.size) (ok := fun k_ => (True ∧ some k_ ≠ (.slice Ao39 t452.length co39 : Value).ownBlock)) (n := t444.length) (c := co33) ?_).2.2; exact (by (with_reducible repeat (first | apply Kd.R_alloc | apply Kd.R_drewN | apply Kd.R_drew)); exact (Kd.R_mono (Kd.R_far (p := ⟨gb457, 3, none⟩) (Kd.R_far (p := ⟨gb457, 2, none⟩) (Kd.R_far (p := ⟨gb457, 1, none⟩) (Kd.R_far (p := ⟨gb457, 0, none⟩) (Kd.R_types HO446.out BK457.out (by decide)) (fun _ hk => hk.2) (.int .i64 t450)) (fun _ hk => hk.2) (.int .i64 t451)) (fun _ hk => hk.2) (.slice Ao39 t452.length co39)) (fun _ hk => hk.2) (.bool t455)) (fun _ h_ => h_.1)))); (case side2 => exact (Kd.R_reads' HO446.out).2.1); (case side3 => refine (Kd.R_reads' (e := 3) (base := w.heap.size) (ok := fun k_ => (True ∧ some k_ ≠ (.slice Ao33 t444.length co33 : Value).ownBlock)) (n := t452.length) (c := co39) ?_).2.2; exact (by (with_reducible repeat (first | apply Kd.R_alloc | apply Kd.R_drewN | apply Kd.R_drew)); exact (Kd.R_mono (Kd.R_far (p := ⟨gb457, 3, none⟩) (Kd.R_far (p := ⟨gb457, 2, none⟩) (Kd.R_far (p := ⟨gb457, 1, none⟩) (Kd.R_far (p := ⟨gb457, 0, none⟩) (Kd.R_types HO454.out BK457.out (by decide)) (fun _ hk => hk.2) (.int .i64 t450)) (fun _ hk => hk.2) (.int .i64 t451)) (fun _ hk => hk.2) (.slice Ao39 t452.length co39)) (fun _ hk => hk.2) (.bool t455)) (fun _ h_ => h_.1)))); (case side4 => exact (Kd.R_reads' HO454.out).2.1); rintro e w41 ⟨rfl, hb⟩; have n0_ := Aside0.mk (Kd.V_below (by (with_reducible repeat (first | apply Kd.V_alloc | apply Kd.V_drewN | apply Kd.V_drew)); exact (Kd.V_mono (Kd.V_far (p := ⟨gb457, 3, none⟩) (Kd.V_far (p := ⟨gb457, 2, none⟩) (Kd.V_far (p := ⟨gb457, 1, none⟩) (Kd.V_far (p := ⟨gb457, 0, none⟩) (Kd.V_mono HO_0.out (fun k_ hk => (⟨hk, hk.2⟩ : _ ∧ k_ ≠ gb457))) (fun _ hk => hk.2) (.int .i64 t450)) (fun _ hk => hk.2) (.int .i64 t451)) (fun _ hk => hk.2) (.slice Ao39 t452.length co39)) (fun _ hk => hk.2) (.bool t455)) (fun _ h_ => h_.1))) hb); have n1_ := Aside0.mk (Kd.R_below (by (with_reducible repeat (first | apply Kd.R_alloc | apply Kd.R_drewN | apply Kd.R_drew)); exact (Kd.R_mono (Kd.R_far (p := ⟨gb457, 3, none⟩) (Kd.R_far (p := ⟨gb457, 2, none⟩) (Kd.R_far (p := ⟨gb457, 1, none⟩) (Kd.R_far (p := ⟨gb457, 0, none⟩) (Kd.R_types HO_3.out BK457.out (by decide)) (fun _ hk => hk.2) (.int .i64 t450)) (fun _ hk => hk.2) (.int .i64 t451)) (fun _ hk => hk.2) (.slice Ao39 t452.length co39)) (fun _ hk => hk.2) (.bool t455)) (fun _ h_ => h_.1))) hb); have n2_ := Aside0.mk (Kd.R_below (by (with_reducible repeat (first | apply Kd.R_alloc | apply Kd.R_drewN | apply Kd.R_drew)); exact (Kd.R_mono (Kd.R_far (p := ⟨gb457, 3, none⟩) (Kd.R_far (p := ⟨gb457, 2, none⟩) (Kd.R_far (p := ⟨gb457, 1, none⟩) (Kd.R_far (p := ⟨gb457, 0, none⟩) (Kd.R_types HO446.out BK457.out (by decide)) (fun _ hk => hk.2) (.int .i64 t450)) (fun _ hk => hk.2) (.int .i64 t451)) (fun _ hk => hk.2) (.slice Ao39 t452.length co39)) (fun _ hk => hk.2) (.bool t455)) (fun _ h_ => h_.1))) hb); have n3_ := Aside0.mk (Kd.R_below (by (with_reducible repeat (first | apply Kd.R_alloc | apply Kd.R_drewN | apply Kd.R_drew)); exact (Kd.R_mono (Kd.R_far (p := ⟨gb457, 3, none⟩) (Kd.R_far (p := ⟨gb457, 2, none⟩) (Kd.R_far (p := ⟨gb457, 1, none⟩) (Kd.R_far (p := ⟨gb457, 0, none⟩) (Kd.R_types HO454.out BK457.out (by decide)) (fun _ hk => hk.2) (.int .i64 t450)) (fun _ hk => hk.2) (.int .i64 t451)) (fun _ hk => hk.2) (.slice Ao39 t452.length co39)) (fun _ hk => hk.2) (.bool t455)) (fun _ h_ => h_.1))) hb); have n4_ := Aside0.mk (blk_below (g := gb449) (o := .cells #[.int .i64 t442, .int .i64 t443, .slice Ao33 t444.length co33, .bool t447] 27 (0, 0)) (by (iterate 4 (refine blk_far ?_ NB449_457.out _)); (with_reducible repeat (first | refine blk_drewN ?_ _ | refine blk_drew ?_ | refine blk_alloc ?_ _)); exact BK449.out) hb); have n5_ := Aside0.mk (blk_below (g := gb457) (o := .cells #[.int .i64 t450, .int .i64 t451, .slice Ao39 t452.length co39, .bool t455] 27 (0, 0)) (by refine blk_put (cs := #[.int .i64 t450, .int .i64 t451, .slice Ao39 t452.length co39, .bool false]) ?_ 3 _ rfl; refine blk_put (cs := #[.int .i64 t450, .int .i64 t451, .slice none 0 0, .bool false]) ?_ 2 _ rfl; refine blk_put (cs := #[.int .i64 t450, .int .i64 0, .slice none 0 0, .bool false]) ?_ 1 _ rfl; refine blk_put (cs := #[.int .i64 0, .int .i64 0, .slice none 0 0, .bool false]) ?_ 0 _ rfl; (with_reducible repeat (first | refine blk_drewN ?_ _ | refine blk_drew ?_ | refine blk_alloc ?_ _)); exact BK457.out) hb); have n6_ := Aside0.mk (below_step (by with_reducible repeat first | exact HB.out | apply below_alloc | apply pw_below_drewN | apply below_drew1 | refine below_set ?_ GE449.out | refine below_set ?_ GE457.out) hb); clear HO_0; clear HO_3; clear HO446; clear HO454; clear BK449; clear BK457; clear HB; have HO_0 := n0_; have HO_3 := n1_; have HO446 := n2_; have HO454 := n3_; have BK449 := n4_; have BK457 := n5_; have HB := n6_; clear n0_ n1_ n2_ n3_ n4_ n5_ n6_; (try clear hb); (try clear hb2); (try clear hk); (try clear hi)))
         go_ret
         exact ⟨by first | rfl | (simp [errW_none, errW_some] <;> rfl) | (simp [*, errW_none, errW_some] <;> rfl), by repeat (first | (with_reducible first | exact HB.out | apply below_alloc | apply pw_below_drewN | apply below_drew1 | refine below_set ?_ GE449.out | refine below_set ?_ GE457.out) | exact HB.out)⟩
        ·rw [if_neg c28] at H
         have c28b0 : (t448 == t456) = false := by simpa using c28
         (try (have c28b1 : decide (t448 = t456) = false := by simpa using c28))
         (try (have c28b2 : (t448 == t456) = false := by simpa using c28))
         (try (have c28b3 : ¬ (t448 = t456) := by simpa using c28))
         clear c28
         obtain rfl := Option.some.inj H
         go_wp2_with (first | ((with_reducible refine gate_callee (f := 10) rfl ?_); refine goesL_ (some 42) rfl rfl Try.func10 (by kernel_rfl) rfl #[.slice Ao20 t432.length co20] rfl (by (try simp only [List.map_toArray, List.map_cons, List.map_nil]); first | done | rfl | (simp only [List.length_drop, List.length_take]; rfl)) ?_; (with_reducible refine (levels_Pick.calls _ _ t432 t442 t443 t444 t447 t448 _ ?side1 ?side2 A26.out).mono ?_); (case side1 => repeat (first | exact (Kd.V_reads' HO_0.out).2.2 | (with_reducible refine Kd.C_alloc ?_ _) | (with_reducible refine Kd.C_drewN ?_ _) | (with_reducible refine Kd.C_drew ?_))); (case side2 => exact (Kd.V_reads' HO_0.out).2.1); rintro e w42 ⟨v445, rfl, ho0, hb⟩; refine ⟨_, rfl, ?_⟩; have n0_ := Aside0.mk (Kd.V_elder' (by (with_reducible repeat (first | apply Kd.V_alloc | apply Kd.V_drewN | apply Kd.V_drew)); exact HO_0.out) (Kd.R_base ho0) hb); have n1_ := Aside0.mk (Kd.R_below (by (with_reducible repeat (first | apply Kd.R_alloc | apply Kd.R_drewN | apply Kd.R_drew)); exact HO_3.out) hb); have n2_ := Aside0.mk (Kd.R_lower ho0 (below_size (by with_reducible repeat first | exact HB.out | apply below_alloc | apply pw_below_drewN | apply below_drew1))); have n3_ := Aside0.mk (below_step (by with_reducible repeat first | exact HB.out | apply below_alloc | apply pw_below_drewN | apply below_drew1) hb); clear HO_0; clear HO_3; clear HB; have HO_0 := n0_; have HO_3 := n1_; have HO446 := n2_; have HB := n3_; clear n0_ n1_ n2_ n3_; (try clear hb); (try clear hb2); (try clear hk); (try clear hi); (try clear ho0)) | ((with_reducible refine gate_dst (N := 5) rfl ?_); refine box_event ?hg (N := 5) ?hd (cs := #[.int .i64 0, .int .i64 0, .slice none 0 0, .bool false]) (t := 27) ?hr ?_; (case hd => rfl); (case hg => rfl); (case hr => first | (go_simp; done) | (go_simp; rfl)); intro gb449 hg w43 hbox hb; have n0_ := Aside0.mk (Kd.V_below (Kd.V_elderB (by (with_reducible repeat (first | apply Kd.V_alloc | apply Kd.V_drewN | apply Kd.V_drew)); exact HO_0.out) gb449 (Nat.le_of_eq hg.symm)) hb); have n1_ := Aside0.mk (Kd.R_below (by (with_reducible repeat (first | apply Kd.R_alloc | apply Kd.R_drewN | apply Kd.R_drew)); exact HO_3.out) hb); have n2_ := Aside0.mk (Kd.R_below (by (with_reducible repeat (first | apply Kd.R_alloc | apply Kd.R_drewN | apply Kd.R_drew)); exact HO446.out) hb); have n3_ := Aside0.mk (below_step (by with_reducible repeat first | exact HB.out | apply below_alloc | apply pw_below_drewN | apply below_drew1) hb); have n4_ := Aside0.mk (hbox); have n5_ := Aside0.mk ((by rw [hg]; exact (below_size (by with_reducible repeat first | exact HB.out | apply below_alloc | apply pw_below_drewN | apply below_drew1)) : w.heap.size ≤ gb449)); have n6_ := Aside0.mk ((by rw [hg]; exact (below_size (by with_reducible repeat first | exact HB.out | apply below_alloc | apply pw_below_drewN | apply below_drew1)) : w.heap.size ≤ gb449)); clear HO_0; clear HO_3; clear HO446; clear HB; have HO_0 := n0_; have HO_3 := n1_; have HO446 := n2_; have HB := n3_; have BK449 := n4_; have GW449 := n5_; have GE449 := n6_; clear n0_ n1_ n2_ n3_ n4_ n5_ n6_; clear hb hbox hg; obtain ⟨hcz44_0, hcz44_1, hcz44_2, hcz44_3⟩ := bc4 BK449.out; obtain ⟨hfz44_0, hfz44_1, hfz44_2, hfz44_3⟩ := bf4 BK449.out; obtain ⟨Ao45, co45, eo45⟩ := Kd.R_slice HO446.out; subst eo45; obtain ⟨Ao46, co46, eo46⟩ := Kd.R_slice HO_3.out; subst eo46) | ((with_reducible refine gate_callee (f := 10) rfl ?_); refine goesL_ (some 47) rfl rfl Try.func10 (by kernel_rfl) rfl #[.slice Ao46 x3_2.length co46] rfl (by (try simp only [List.map_toArray, List.map_cons, List.map_nil]); first | done | rfl | (simp only [List.length_drop, List.length_take]; rfl)) ?_; (with_reducible refine (levels_Pick.calls _ _ x3_2 t450 t451 t452 t455 t456 _ ?side1 ?side2 A27.out).mono ?_); (case side1 => refine (Kd.R_reads' (e := 38) (base := w.heap.size) (ok := fun k_ => True) (n := x3_2.length) (c := co46) ?_).2.2; exact (by (with_reducible repeat (first | apply Kd.R_alloc | apply Kd.R_drewN | apply Kd.R_drew)); exact (Kd.R_mono (Kd.R_far (p := ⟨gb449, 3, none⟩) (Kd.R_far (p := ⟨gb449, 2, none⟩) (Kd.R_far (p := ⟨gb449, 1, none⟩) (Kd.R_far (p := ⟨gb449, 0, none⟩) (Kd.R_types HO_3.out BK449.out (by decide)) (fun _ hk => hk.2) (.int .i64 t442)) (fun _ hk => hk.2) (.int .i64 t443)) (fun _ hk => hk.2) (.slice Ao45 t444.length co45)) (fun _ hk => hk.2) (.bool t447)) (fun _ h_ => h_.1)))); (case side2 => exact (Kd.R_reads' HO_3.out).2.1); rintro e w47 ⟨v453, rfl, ho0, hb⟩; refine ⟨_, rfl, ?_⟩; have n0_ := Aside0.mk (Kd.V_elder' (by (with_reducible repeat (first | apply Kd.V_alloc | apply Kd.V_drewN | apply Kd.V_drew)); exact (Kd.V_mono (Kd.V_far (p := ⟨gb449, 3, none⟩) (Kd.V_far (p := ⟨gb449, 2, none⟩) (Kd.V_far (p := ⟨gb449, 1, none⟩) (Kd.V_far (p := ⟨gb449, 0, none⟩) (Kd.V_mono HO_0.out (fun k_ hk => (⟨hk, hk.2⟩ : _ ∧ k_ ≠ gb449))) (fun _ hk => hk.2) (.int .i64 t442)) (fun _ hk => hk.2) (.int .i64 t443)) (fun _ hk => hk.2) (.slice Ao45 t444.length co45)) (fun _ hk => hk.2) (.bool t447)) (fun _ h_ => h_.1))) (Kd.R_base ho0) hb); have n1_ := Aside0.mk (Kd.R_below (by (with_reducible repeat (first | apply Kd.R_alloc | apply Kd.R_drewN | apply Kd.R_drew)); exact (Kd.R_mono (Kd.R_far (p := ⟨gb449, 3, none⟩) (Kd.R_far (p := ⟨gb449, 2, none⟩) (Kd.R_far (p := ⟨gb449, 1, none⟩) (Kd.R_far (p := ⟨gb449, 0, none⟩) (Kd.R_types HO_3.out BK449.out (by decide)) (fun _ hk => hk.2) (.int .i64 t442)) (fun _ hk => hk.2) (.int .i64 t443)) (fun _ hk => hk.2) (.slice Ao45 t444.length co45)) (fun _ hk => hk.2) (.bool t447)) (fun _ h_ => h_.1))) hb); have n2_ := Aside0.mk (Kd.R_elder' (by (with_reducible repeat (first | apply Kd.R_alloc | apply Kd.R_drewN | apply Kd.R_drew)); exact (Kd.R_mono (Kd.R_far (p := ⟨gb449, 3, none⟩) (Kd.R_far (p := ⟨gb449, 2, none⟩) (Kd.R_far (p := ⟨gb449, 1, none⟩) (Kd.R_far (p := ⟨gb449, 0, none⟩) (Kd.R_types HO446.out BK449.out (by decide)) (fun _ hk => hk.2) (.int .i64 t442)) (fun _ hk => hk.2) (.int .i64 t443)) (fun _ hk => hk.2) (.slice Ao45 t444.length co45)) (fun _ hk => hk.2) (.bool t447)) (fun _ h_ => h_.1))) (Kd.R_base ho0) hb); have n3_ := Aside0.mk (Kd.R_lower (Kd.R_new' ho0 (Kd.R_lt (by (with_reducible repeat (first | apply Kd.R_alloc | apply Kd.R_drewN | apply Kd.R_drew)); exact (Kd.R_mono (Kd.R_far (p := ⟨gb449, 3, none⟩) (Kd.R_far (p := ⟨gb449, 2, none⟩) (Kd.R_far (p := ⟨gb449, 1, none⟩) (Kd.R_far (p := ⟨gb449, 0, none⟩) (Kd.R_types HO446.out BK449.out (by decide)) (fun _ hk => hk.2) (.int .i64 t442)) (fun _ hk => hk.2) (.int .i64 t443)) (fun _ hk => hk.2) (.slice Ao45 t444.length co45)) (fun _ hk => hk.2) (.bool t447)) (fun _ h_ => h_.1))))) (below_size (by with_reducible repeat first | exact HB.out | apply below_alloc | apply pw_below_drewN | apply below_drew1 | refine below_set ?_ GE449.out))); have n4_ := Aside0.mk (blk_below (g := gb449) (o := .cells #[.int .i64 t442, .int .i64 t443, .slice Ao45 t444.length co45, .bool t447] 27 (0, 0)) (by refine blk_put (cs := #[.int .i64 t442, .int .i64 t443, .slice Ao45 t444.length co45, .bool false]) ?_ 3 _ rfl; refine blk_put (cs := #[.int .i64 t442, .int .i64 t443, .slice none 0 0, .bool false]) ?_ 2 _ rfl; refine blk_put (cs := #[.int .i64 t442, .int .i64 0, .slice none 0 0, .bool false]) ?_ 1 _ rfl; refine blk_put (cs := #[.int .i64 0, .int .i64 0, .slice none 0 0, .bool false]) ?_ 0 _ rfl; (with_reducible repeat (first | refine blk_drewN ?_ _ | refine blk_drew ?_ | refine blk_alloc ?_ _)); exact BK449.out) hb); have n5_ := Aside0.mk (below_step (by with_reducible repeat first | exact HB.out | apply below_alloc | apply pw_below_drewN | apply below_drew1 | refine below_set ?_ GE449.out) hb); clear HO_0; clear HO_3; clear HO446; clear BK449; clear HB; have HO_0 := n0_; have HO_3 := n1_; have HO446 := n2_; have HO454 := n3_; have BK449 := n4_; have HB := n5_; clear n0_ n1_ n2_ n3_ n4_ n5_; (try clear hb); (try clear hb2); (try clear hk); (try clear hi); (try clear ho0)) | ((with_reducible refine gate_dst (N := 7) rfl ?_); refine box_event ?hg (N := 7) ?hd (cs := #[.int .i64 0, .int .i64 0, .slice none 0 0, .bool false]) (t := 27) ?hr ?_; (case hd => rfl); (case hg => rfl); (case hr => first | (go_simp; done) | (go_simp; rfl)); intro gb457 hg w48 hbox hb; have n0_ := Aside0.mk (Kd.V_below (Kd.V_elderB (by (with_reducible repeat (first | apply Kd.V_alloc | apply Kd.V_drewN | apply Kd.V_drew)); exact HO_0.out) gb457 (Nat.le_of_eq hg.symm)) hb); have n1_ := Aside0.mk (Kd.R_below (by (with_reducible repeat (first | apply Kd.R_alloc | apply Kd.R_drewN | apply Kd.R_drew)); exact HO_3.out) hb); have n2_ := Aside0.mk (Kd.R_below (by (with_reducible repeat (first | apply Kd.R_alloc | apply Kd.R_drewN | apply Kd.R_drew)); exact HO446.out) hb); have n3_ := Aside0.mk (Kd.R_below (by (with_reducible repeat (first | apply Kd.R_alloc | apply Kd.R_drewN | apply Kd.R_drew)); exact HO454.out) hb); have n4_ := Aside0.mk (blk_below (g := gb449) (o := .cells #[.int .i64 t442, .int .i64 t443, .slice Ao45 t444.length co45, .bool t447] 27 (0, 0)) (by (with_reducible repeat (first | refine blk_drewN ?_ _ | refine blk_drew ?_ | refine blk_alloc ?_ _)); exact BK449.out) hb); have n5_ := Aside0.mk (below_step (by with_reducible repeat first | exact HB.out | apply below_alloc | apply pw_below_drewN | apply below_drew1 | refine below_set ?_ GE449.out) hb); have n6_ := Aside0.mk (hbox); have n7_ := Aside0.mk ((by rw [hg]; exact (below_size (by with_reducible repeat first | exact HB.out | apply below_alloc | apply pw_below_drewN | apply below_drew1 | refine below_set ?_ GE449.out)) : w.heap.size ≤ gb457)); have n8_ := Aside0.mk ((by rw [hg]; exact (below_size (by with_reducible repeat first | exact HB.out | apply below_alloc | apply pw_below_drewN | apply below_drew1 | refine below_set ?_ GE449.out)) : w.heap.size ≤ gb457)); have n9_ := Aside0.mk ((by rw [hg]; exact Nat.ne_of_lt (blk_lt (g := gb449) (o := .cells #[.int .i64 t442, .int .i64 t443, .slice Ao45 t444.length co45, .bool t447] 27 (0, 0)) (by (with_reducible repeat (first | refine blk_drewN ?_ _ | refine blk_drew ?_ | refine blk_alloc ?_ _)); exact BK449.out)) : gb449 ≠ gb457)); have n10_ := Aside0.mk ((by rw [hg]; exact Nat.ne_of_gt (blk_lt (g := gb449) (o := .cells #[.int .i64 t442, .int .i64 t443, .slice Ao45 t444.length co45, .bool t447] 27 (0, 0)) (by (with_reducible repeat (first | refine blk_drewN ?_ _ | refine blk_drew ?_ | refine blk_alloc ?_ _)); exact BK449.out)) : gb457 ≠ gb449)); clear HO_0; clear HO_3; clear HO446; clear HO454; clear BK449; clear HB; have HO_0 := n0_; have HO_3 := n1_; have HO446 := n2_; have HO454 := n3_; have BK449 := n4_; have HB := n5_; have BK457 := n6_; have GW457 := n7_; have GE457 := n8_; have NB449_457 := n9_; have NB457_449 := n10_; clear n0_ n1_ n2_ n3_ n4_ n5_ n6_ n7_ n8_ n9_ n10_; clear hb hbox hg; have hnb49 := NB457_449.out; have hnc49 := NB449_457.out; obtain ⟨hcz50_0, hcz50_1, hcz50_2, hcz50_3⟩ := bc4 BK457.out; obtain ⟨hfz50_0, hfz50_1, hfz50_2, hfz50_3⟩ := bf4 BK457.out; obtain ⟨Ao51, co51, eo51⟩ := Kd.R_slice HO454.out; subst eo51))
         go_ret
         exact ⟨by first | rfl | (simp [errW_none, errW_some] <;> rfl) | (simp [*, errW_none, errW_some] <;> rfl), by repeat (first | (with_reducible first | exact HB.out | apply below_alloc | apply pw_below_drewN | apply below_drew1 | refine below_set ?_ GE449.out | refine below_set ?_ GE457.out) | exact HB.out)⟩
 ·replace c3 := Bool.eq_false_iff.mpr c3
  subst c3
  have H1 : (some false) = some r := by rw [if_neg (show ¬ (false = true) by decide)] at H; exact H
  clear H
  have H := H1
  clear H1
  obtain rfl := Option.some.inj H
  go_enter Try.func6, Try.ntmps6
  go_wp2_with (first | ((with_reducible refine gate_callee (f := 8) rfl ?_); refine goesL_ (some 9) rfl rfl Try.func8 (by kernel_rfl) rfl #[] rfl (by (try simp only [List.map_toArray, List.map_cons, List.map_nil]); first | done | rfl | (simp only [List.length_drop, List.length_take]; rfl)) ?_; (with_reducible refine (tithebarnlaw17_lives_c.calls k  false _ A2.out).mono ?_); rintro e w52 ⟨rfl, hb⟩; refine ⟨_, rfl, ?_⟩; have n0_ := Aside0.mk (below_step (by with_reducible repeat first | exact HB.out | apply below_alloc | apply pw_below_drewN | apply below_drew1) hb); clear HB; have HB := n0_; clear n0_; (try clear hb); (try clear hb2); (try clear hk); (try clear hi)))
  go_ret
  exact ⟨by first | rfl | (simp [errW_none, errW_some] <;> rfl) | (simp [*, errW_none, errW_some] <;> rfl), by repeat (first | (with_reducible first | exact HB.out | apply below_alloc | apply pw_below_drewN | apply below_drew1) | exact HB.out)⟩

end Go.Proofs.Ytcbgcmaioicdbaa.Pr
