-- printed by xprint.py (this seat's own program, over the kit's print.py); not trusted: Lean checks it
import Derived.Test.YthlelhndmnkmjaaPr0
import Derived.Test.YthlelhndmnkmjaaPrf25
import Derived.Test.YthlelhndmnkmjaaPrf24
namespace Go.Proofs.Ythlelhndmnkmjaa.Pr
open Go.RowKit Go.Proofs.YthlelhndmnkmjaaW.PrintWords Go.Proofs.YthlelhndmnkmjaaW.PrintLast Go.Proofs.YthlelhndmnkmjaaW.PrintMore
attribute [local go_sem] max2_int min2_int max_two min_two max_three min_three max_four min_four   -- for this text's walks alone
set_option linter.unusedVariables false
set_option linter.unusedSimpArgs false

/-! ### tithebarnlaw24_GroupsTop: function 9 -/
mutual
def tithebarnlaw24_GroupsTop.l0 : Nat → List (S49) → List (S49) → Int → Option (Bool)
 | 0, _, _, _ => none
 | k + 1, x0, x5, x6 => if x6 < (x5.length : Int) then (tithebarnlaw24_GroupsTop.l1 k x0 x5 x6 0 0) else (some true)
def tithebarnlaw24_GroupsTop.l1 : Nat → List (S49) → List (S49) → Int → Int → Int → Option (Bool)
 | 0, _, _, _, _, _ => none
 | k + 1, x0, x5, x6, x7, x8 => if x8 < (x0.length : Int) then (if 0 ≤ x8 then (if 0 ≤ x6 then (if x6 < (x5.length : Int) then (if ((rd_T49 x0 x8).f1.f1) > ((rd_T49 x5 x6).f1.f1) then (tithebarnlaw24_GroupsTop.l1 k x0 x5 x6 (wrap64 (x7 + 1)) (wrap64 (x8 + 1))) else (tithebarnlaw24_GroupsTop.l1 k x0 x5 x6 x7 (wrap64 (x8 + 1)))) else (none)) else (none)) else (none)) else (if x7 > x6 then (some false) else (if x6 > 0 then (if 0 ≤ (wrap64 (x6 - 1)) then (if (wrap64 (x6 - 1)) < (x5.length : Int) then (if 0 ≤ x6 then (if x6 < (x5.length : Int) then (if ((rd_T49 x5 (wrap64 (x6 - 1))).f1.f1) < ((rd_T49 x5 x6).f1.f1) then (some false) else (tithebarnlaw24_GroupsTop.l0 k x0 x5 (wrap64 (x6 + 1)))) else (none)) else (none)) else (none)) else (none)) else (tithebarnlaw24_GroupsTop.l0 k x0 x5 (wrap64 (x6 + 1)))))
end
def tithebarnlaw24_GroupsTop.f (k : Nat) (l0 : List (S49)) (a1 : Int) : Option (Bool) := (tithebarnlaw24_lives.f k).bind fun t226 => (if t226 = true then (if 0 ≤ (mn (l0.length : Int) 100) then (if (mn (l0.length : Int) 100) ≤ (l0.length : Int) then ((some (l0.take ((mn (l0.length : Int) 100) : Int).toNat : List (S49))).bind fun y227 => ((groups_Top.f y227 a1).bind fun t231 => (if (t231.length : Int) = (mn (mx a1 0) (y227.length : Int)) then (tithebarnlaw24_GroupsTop.l0 k y227 t231 0) else (some false)))) else (none)) else (none)) else (some false))
theorem tithebarnlaw24_GroupsTop.mono_l : ∀ k, (∀ y0 y1 y2, LeO (tithebarnlaw24_GroupsTop.l0 k y0 y1 y2) (tithebarnlaw24_GroupsTop.l0 (k + 1) y0 y1 y2)) ∧ (∀ y0 y1 y2 y3 y4, LeO (tithebarnlaw24_GroupsTop.l1 k y0 y1 y2 y3 y4) (tithebarnlaw24_GroupsTop.l1 (k + 1) y0 y1 y2 y3 y4))
 | 0 => ⟨fun _ _ _ r h => by simp [tithebarnlaw24_GroupsTop.l0] at h, fun _ _ _ _ _ r h => by simp [tithebarnlaw24_GroupsTop.l1] at h⟩
 | k + 1 => by
  obtain ⟨ih0, ih1⟩ := tithebarnlaw24_GroupsTop.mono_l k
  refine ⟨?_, ?_⟩
  ·intro y0 y1 y2
   unfold tithebarnlaw24_GroupsTop.l0
   repeat' first
   | (with_reducible exact ih0 _ _ _)
   | (with_reducible exact ih1 _ _ _ _ _)
   | (with_reducible exact tithebarnlaw24_lives.mono _)
   | (with_reducible exact LeO.refl _)
   | (with_reducible exact LeO.none _)
   | (with_reducible refine LeO.ite ?_ ?_)
   | (with_reducible refine LeO.bind ?_ (fun _ => ?_))
   | exact ih0 _ _ _
   | exact ih1 _ _ _ _ _
   | exact tithebarnlaw24_lives.mono _
   | exact LeO.none _
   | refine LeO.ite ?_ ?_
   | refine LeO.bind ?_ (fun _ => ?_)
  ·intro y0 y1 y2 y3 y4
   unfold tithebarnlaw24_GroupsTop.l1
   repeat' first
   | (with_reducible exact ih0 _ _ _)
   | (with_reducible exact ih1 _ _ _ _ _)
   | (with_reducible exact tithebarnlaw24_lives.mono _)
   | (with_reducible exact LeO.refl _)
   | (with_reducible exact LeO.none _)
   | (with_reducible refine LeO.ite ?_ ?_)
   | (with_reducible refine LeO.bind ?_ (fun _ => ?_))
   | exact ih0 _ _ _
   | exact ih1 _ _ _ _ _
   | exact tithebarnlaw24_lives.mono _
   | exact LeO.none _
   | refine LeO.ite ?_ ?_
   | refine LeO.bind ?_ (fun _ => ?_)
theorem tithebarnlaw24_GroupsTop.mono : ∀ a0 a1 k, LeO (tithebarnlaw24_GroupsTop.f k a0 a1) (tithebarnlaw24_GroupsTop.f (k + 1) a0 a1) := by
 intro a0 a1 k
 obtain ⟨ih0, ih1⟩ := tithebarnlaw24_GroupsTop.mono_l k
 unfold tithebarnlaw24_GroupsTop.f
 repeat' first
   | (with_reducible exact ih0 _ _ _)
   | (with_reducible exact ih1 _ _ _ _ _)
   | (with_reducible exact tithebarnlaw24_lives.mono _)
   | (with_reducible exact LeO.refl _)
   | (with_reducible exact LeO.none _)
   | (with_reducible refine LeO.ite ?_ ?_)
   | (with_reducible refine LeO.bind ?_ (fun _ => ?_))
   | exact ih0 _ _ _
   | exact ih1 _ _ _ _ _
   | exact tithebarnlaw24_lives.mono _
   | exact LeO.none _
   | refine LeO.ite ?_ ?_
   | refine LeO.bind ?_ (fun _ => ?_)
set_option maxHeartbeats 8000000 in
set_option maxRecDepth 100000 in
theorem tithebarnlaw24_GroupsTop.calls (k : Nat) (A0 : Option Addr) (c0 : Nat) (l0 : List (S49)) (a1 : Int) (r : Bool) (w : World) (hr0 : Kd.C k49 w A0 l0.length l0) (hc0 : l0.length ≤ c0) (h : tithebarnlaw24_GroupsTop.f k l0 a1 = some r) :
  Calls Try.prog 9 #[.slice A0 l0.length c0, .int .i64 a1] w fun e w' => e = .returned (.bool r) ∧ Below w.heap.size w w' := by
 have HR0 := Aside0.mk hr0
 have HC0 := Aside0.mk hc0
 clear hr0 hc0
 have HB := Aside0.mk (Below.refl w.heap.size w)
 have H : ((tithebarnlaw24_lives.f k).bind fun t226 => (if t226 = true then (if 0 ≤ (mn (l0.length : Int) 100) then (if (mn (l0.length : Int) 100) ≤ (l0.length : Int) then ((some (l0.take ((mn (l0.length : Int) 100) : Int).toNat : List (S49))).bind fun y227 => ((groups_Top.f y227 a1).bind fun t231 => (if (t231.length : Int) = (mn (mx a1 0) (y227.length : Int)) then (tithebarnlaw24_GroupsTop.l0 k y227 t231 0) else (some false)))) else (none)) else (none)) else (some false))) = some r := h
 clear h
 replace H := Option.bind_eq_some_iff.mp H
 obtain ⟨t226, A30, H⟩ := H
 replace H : (if t226 = true then (if 0 ≤ (mn (l0.length : Int) 100) then (if (mn (l0.length : Int) 100) ≤ (l0.length : Int) then ((some (l0.take ((mn (l0.length : Int) 100) : Int).toNat : List (S49))).bind fun y227 => ((groups_Top.f y227 a1).bind fun t231 => (if (t231.length : Int) = (mn (mx a1 0) (y227.length : Int)) then (tithebarnlaw24_GroupsTop.l0 k y227 t231 0) else (some false)))) else (none)) else (none)) else (some false)) = some r := H
 have A3 := Aside0.mk A30
 clear A30
 by_cases c4 : t226 = true
 ·subst c4
  have H1 : (if 0 ≤ (mn (l0.length : Int) 100) then (if (mn (l0.length : Int) 100) ≤ (l0.length : Int) then ((some (l0.take ((mn (l0.length : Int) 100) : Int).toNat : List (S49))).bind fun y227 => ((groups_Top.f y227 a1).bind fun t231 => (if (t231.length : Int) = (mn (mx a1 0) (y227.length : Int)) then (tithebarnlaw24_GroupsTop.l0 k y227 t231 0) else (some false)))) else (none)) else (none)) = some r := by rw [if_pos rfl] at H; exact H
  clear H
  have H := H1
  clear H1
  obtain ⟨ji5, hji5⟩ : ∃ j_ : Int, (mn (l0.length : Int) 100) = j_ := ⟨_, rfl⟩
  replace H : (if 0 ≤ (ji5) then (if (ji5) ≤ (l0.length : Int) then ((some (l0.take ((ji5) : Int).toNat : List (S49))).bind fun y227 => ((groups_Top.f y227 a1).bind fun t231 => (if (t231.length : Int) = (mn (mx a1 0) (y227.length : Int)) then (tithebarnlaw24_GroupsTop.l0 k y227 t231 0) else (some false)))) else (none)) else (none)) = some r := by first | (rw [hji5] at H; exact H) | (simp only [hji5] at H ⊢; exact H)
  (try rw [hji5] at A3)
  (try (have hji5h : ji5 ≤ 100 := by (rw [← hji5]; unfold mn; (repeat' split) <;> omega)))
  (try (have hji5g : ji5 ≤ 64 := by omega))
  (try (have hji5l : 0 ≤ ji5 := by (rw [← hji5]; unfold mn; (repeat' split) <;> omega)))
  (try (have hji5m : 0 ≤ ji5 := by omega))
  have hji5_ : (if 100 < (l0.length : Int) then 100 else (l0.length : Int)) = ji5 := hji5
  by_cases c6 : 0 ≤ (ji5)
  ·rw [if_pos c6] at H
   have c6b0 := eq_true c6
   have c6b1 : decide (0 ≤ (ji5)) = true := decide_eq_true c6
   clear c6
   by_cases c7 : (ji5) ≤ (l0.length : Int)
   ·rw [if_pos c7] at H
    have c7b0 := eq_true c7
    have c7b1 : decide ((ji5) ≤ (l0.length : Int)) = true := decide_eq_true c7
    clear c7
    obtain ⟨y227, hy227⟩ : ∃ y_ : List (S49), y_ = (l0.take ((ji5) : Int).toNat) := ⟨_, rfl⟩
    replace H : ((groups_Top.f y227 a1).bind fun t231 => (if (t231.length : Int) = (mn (mx a1 0) (y227.length : Int)) then (tithebarnlaw24_GroupsTop.l0 k y227 t231 0) else (some false))) = some r := by first | (rw [hy227]; with_reducible exact H) | (have H2_ := (Option.bind_some _ _).symm.trans H; rw [hy227]; with_reducible exact H2_) | (have H2_ := (Option.bind_some _ _).symm.trans H; with_reducible exact H2_) | with_reducible exact H | (rw [hy227]; exact H) | exact H
    have Ny227 := Aside0.mk hy227
    clear hy227
    replace H := Option.bind_eq_some_iff.mp H
    obtain ⟨t231, A80, H⟩ := H
    replace H : (if (t231.length : Int) = (mn (mx a1 0) (y227.length : Int)) then (tithebarnlaw24_GroupsTop.l0 k y227 t231 0) else (some false)) = some r := H
    have A8 := Aside0.mk A80
    clear A80
    obtain ⟨ji9, hji9⟩ : ∃ j_ : Int, (mx a1 0) = j_ := ⟨_, rfl⟩
    replace H : (if (t231.length : Int) = (mn (ji9) (y227.length : Int)) then (tithebarnlaw24_GroupsTop.l0 k y227 t231 0) else (some false)) = some r := by first | (rw [hji9] at H; exact H) | (simp only [hji9] at H ⊢; exact H)
    (try rw [hji9] at A3)
    (try rw [hji9] at A8)
    (try (have hji9l : 0 ≤ ji9 := by (rw [← hji9]; unfold mx; (repeat' split) <;> omega)))
    (try (have hji9m : 0 ≤ ji9 := by omega))
    have hji9_ : (if a1 < 0 then 0 else a1) = ji9 := hji9
    obtain ⟨ji10, hji10⟩ : ∃ j_ : Int, (mn (ji9) (y227.length : Int)) = j_ := ⟨_, rfl⟩
    replace H : (if (t231.length : Int) = (ji10) then (tithebarnlaw24_GroupsTop.l0 k y227 t231 0) else (some false)) = some r := by first | (rw [hji10] at H; exact H) | (simp only [hji10] at H ⊢; exact H)
    (try rw [hji10] at A3)
    (try rw [hji10] at A8)
    have hji10_ : (if (y227.length : Int) < (ji9) then (y227.length : Int) else (ji9)) = ji10 := hji10
    by_cases c11 : (t231.length : Int) = (ji10)
    ·rw [if_pos c11] at H
     have c11b0 : ((t231.length : Int) == (ji10)) = true := beq_iff_eq.mpr c11
     have c11b1 : ((t231.length : Int) != (ji10)) = false := bne_eq_false_iff_eq.mpr c11
     clear c11
     have H' := Aside0.mk H
     clear H
     go_enter Try.func9, Try.ntmps9
     go_wp2_with (first | (go_at_call 24; (with_reducible refine (tithebarnlaw24_lives.calls k  true _ A3.out).mono ?_); rintro e w12 ⟨rfl, hb⟩; have n0_ := Aside0.mk (below_step (by repeat (first | (with_reducible first | exact HB.out | apply below_alloc | apply pw_below_drewN | apply below_drew1) | exact HB.out)) hb); clear HB; have HB := n0_; clear n0_; (try clear hb); (try clear hb2); (try clear hk); (try clear hi); have q13 : ((ji5) : Int) ≤ ((l0.length : Int) : Int) := of_decide_eq_true (by first | (with_reducible assumption) | assumption); obtain ⟨i013, hi013, _, hsz13, _⟩ := info_parts info49; have hroom13 : l0.length ≤ c0 := HC0.out; have hC13 : Kd.C k49 _ A0 l0.length l0 := HR0.out; have hcut13 := cut_to (P := Try.prog) 44 49 .i64 Try.underlying44 hi013 A0 l0.length c0 (ji5) (of_decide_eq_true (by first | (with_reducible assumption) | assumption)) q13 hroom13; have hr13 := Kd.C_take (m := ((ji5) : Int).toNat) hC13 (by omega); have hy13 : y227.length = ((ji5) : Int).toNat := (by rw [Ny227.out, List.length_take]; omega); rw [← Ny227.out] at hr13; rw [← hy13] at hcut13; have HR230 := Aside0.mk hr13; have HC230 := Aside0.mk (show y227.length ≤ c0 from by omega); clear hr13 hC13 hroom13 hi013 hsz13; have KY13 := Aside0.mk hy13; clear hy13; replace q13 := eq_true q13) | (go_at_call 25; (with_reducible refine (groups_Top.calls _ _ y227 a1 t231 _ ?side1 ?side2 A8.out).mono ?_); (case side1 => repeat (first | exact (Kd.C_below HR230.out HB.out) | (with_reducible refine Kd.C_alloc ?_ _) | (with_reducible refine Kd.C_drewN ?_ _) | (with_reducible refine Kd.C_drew ?_))); (case side2 => exact HC230.out); rintro e w14 ⟨v232, rfl, ho0, hb⟩; have n0_ := Aside0.mk (Kd.R_lower ho0 (below_size (by repeat (first | (with_reducible first | exact HB.out | apply below_alloc | apply pw_below_drewN | apply below_drew1) | exact HB.out)))); have n1_ := Aside0.mk (below_step (by repeat (first | (with_reducible first | exact HB.out | apply below_alloc | apply pw_below_drewN | apply below_drew1) | exact HB.out)) hb); clear HB; have HO233 := n0_; have HB := n1_; clear n0_ n1_; (try clear hb); (try clear hb2); (try clear hk); (try clear hi); (try clear ho0); obtain ⟨Ao15, co15, eo15⟩ := Kd.R_slice HO233.out; subst eo15))
     repeat (go_quiet (first | (go_at_call 24; (with_reducible refine (tithebarnlaw24_lives.calls k  true _ A3.out).mono ?_); rintro e w12 ⟨rfl, hb⟩; have n0_ := Aside0.mk (below_step (by repeat (first | (with_reducible first | exact HB.out | apply below_alloc | apply pw_below_drewN | apply below_drew1) | exact HB.out)) hb); clear HB; have HB := n0_; clear n0_; (try clear hb); (try clear hb2); (try clear hk); (try clear hi); have q13 : ((ji5) : Int) ≤ ((l0.length : Int) : Int) := of_decide_eq_true (by first | (with_reducible assumption) | assumption); obtain ⟨i013, hi013, _, hsz13, _⟩ := info_parts info49; have hroom13 : l0.length ≤ c0 := HC0.out; have hC13 : Kd.C k49 _ A0 l0.length l0 := HR0.out; have hcut13 := cut_to (P := Try.prog) 44 49 .i64 Try.underlying44 hi013 A0 l0.length c0 (ji5) (of_decide_eq_true (by first | (with_reducible assumption) | assumption)) q13 hroom13; have hr13 := Kd.C_take (m := ((ji5) : Int).toNat) hC13 (by omega); have hy13 : y227.length = ((ji5) : Int).toNat := (by rw [Ny227.out, List.length_take]; omega); rw [← Ny227.out] at hr13; rw [← hy13] at hcut13; have HR230 := Aside0.mk hr13; have HC230 := Aside0.mk (show y227.length ≤ c0 from by omega); clear hr13 hC13 hroom13 hi013 hsz13; have KY13 := Aside0.mk hy13; clear hy13; replace q13 := eq_true q13) | (go_at_call 25; (with_reducible refine (groups_Top.calls _ _ y227 a1 t231 _ ?side1 ?side2 A8.out).mono ?_); (case side1 => repeat (first | exact (Kd.C_below HR230.out HB.out) | (with_reducible refine Kd.C_alloc ?_ _) | (with_reducible refine Kd.C_drewN ?_ _) | (with_reducible refine Kd.C_drew ?_))); (case side2 => exact HC230.out); rintro e w14 ⟨v232, rfl, ho0, hb⟩; have n0_ := Aside0.mk (Kd.R_lower ho0 (below_size (by repeat (first | (with_reducible first | exact HB.out | apply below_alloc | apply pw_below_drewN | apply below_drew1) | exact HB.out)))); have n1_ := Aside0.mk (below_step (by repeat (first | (with_reducible first | exact HB.out | apply below_alloc | apply pw_below_drewN | apply below_drew1) | exact HB.out)) hb); clear HB; have HO233 := n0_; have HB := n1_; clear n0_ n1_; (try clear hb); (try clear hb2); (try clear hk); (try clear hi); (try clear ho0); obtain ⟨Ao15, co15, eo15⟩ := Kd.R_slice HO233.out; subst eo15)); try go_wp2_with (first | (go_at_call 24; (with_reducible refine (tithebarnlaw24_lives.calls k  true _ A3.out).mono ?_); rintro e w12 ⟨rfl, hb⟩; have n0_ := Aside0.mk (below_step (by repeat (first | (with_reducible first | exact HB.out | apply below_alloc | apply pw_below_drewN | apply below_drew1) | exact HB.out)) hb); clear HB; have HB := n0_; clear n0_; (try clear hb); (try clear hb2); (try clear hk); (try clear hi); have q13 : ((ji5) : Int) ≤ ((l0.length : Int) : Int) := of_decide_eq_true (by first | (with_reducible assumption) | assumption); obtain ⟨i013, hi013, _, hsz13, _⟩ := info_parts info49; have hroom13 : l0.length ≤ c0 := HC0.out; have hC13 : Kd.C k49 _ A0 l0.length l0 := HR0.out; have hcut13 := cut_to (P := Try.prog) 44 49 .i64 Try.underlying44 hi013 A0 l0.length c0 (ji5) (of_decide_eq_true (by first | (with_reducible assumption) | assumption)) q13 hroom13; have hr13 := Kd.C_take (m := ((ji5) : Int).toNat) hC13 (by omega); have hy13 : y227.length = ((ji5) : Int).toNat := (by rw [Ny227.out, List.length_take]; omega); rw [← Ny227.out] at hr13; rw [← hy13] at hcut13; have HR230 := Aside0.mk hr13; have HC230 := Aside0.mk (show y227.length ≤ c0 from by omega); clear hr13 hC13 hroom13 hi013 hsz13; have KY13 := Aside0.mk hy13; clear hy13; replace q13 := eq_true q13) | (go_at_call 25; (with_reducible refine (groups_Top.calls _ _ y227 a1 t231 _ ?side1 ?side2 A8.out).mono ?_); (case side1 => repeat (first | exact (Kd.C_below HR230.out HB.out) | (with_reducible refine Kd.C_alloc ?_ _) | (with_reducible refine Kd.C_drewN ?_ _) | (with_reducible refine Kd.C_drew ?_))); (case side2 => exact HC230.out); rintro e w14 ⟨v232, rfl, ho0, hb⟩; have n0_ := Aside0.mk (Kd.R_lower ho0 (below_size (by repeat (first | (with_reducible first | exact HB.out | apply below_alloc | apply pw_below_drewN | apply below_drew1) | exact HB.out)))); have n1_ := Aside0.mk (below_step (by repeat (first | (with_reducible first | exact HB.out | apply below_alloc | apply pw_below_drewN | apply below_drew1) | exact HB.out)) hb); clear HB; have HO233 := n0_; have HB := n1_; clear n0_ n1_; (try clear hb); (try clear hb2); (try clear hk); (try clear hi); (try clear ho0); obtain ⟨Ao15, co15, eo15⟩ := Kd.R_slice HO233.out; subst eo15)))
     go_loopg [6] k (fun kq v6 w' => ∃ (x6_1 : Int), v6 = .int .i64 x6_1 ∧ Aside0 (tithebarnlaw24_GroupsTop.l0 kq y227 t231 x6_1 = some r) ∧ Aside0 (kq ≤ k) ∧ Aside0 (Kd.R k49 49 w' w.heap.size (fun _ => True) (.slice Ao15 t231.length co15) t231) ∧ Aside0 (Below w.heap.size w w'))
     case atStart => exact ⟨(0), (by first | rfl | (simp; done) | (simp [*]; done)), H', ⟨Nat.le_refl _⟩, ⟨by (with_reducible repeat (first | apply Kd.R_alloc | apply Kd.R_drewN | apply Kd.R_drew)); exact HO233.out⟩, ⟨by repeat (first | (with_reducible first | exact HB.out | apply below_alloc | apply pw_below_drewN | apply below_drew1) | exact HB.out)⟩⟩
     case round =>
      clear H'
      try clear c1
      try clear q1
      try clear p2
      try clear c4
      try clear c6
      try clear c6b0
      try clear c6b1
      try clear c7
      try clear c7b0
      try clear c7b1
      try clear c9
      try clear c11
      try clear c11b0
      try clear c11b1
      try clear q13
      try clear q13
      obtain ⟨x6_1, rfl, HA, HK1, HO_5, HB⟩ := hrel
      cases gk with
      | zero => exact absurd HA.out (by simp [tithebarnlaw24_GroupsTop.l0])
      | succ k1 =>
       have H := HA.out
       clear HA
       simp only [tithebarnlaw24_GroupsTop.l0] at H
       by_cases c16 : x6_1 < (t231.length : Int)
       ·rw [if_pos c16] at H
        have c16b0 : decide (x6_1 < (t231.length : Int)) = true := decide_eq_true c16
        clear c16
        have H' := Aside0.mk H
        clear H
        go_wp2
        repeat (go_quiet (fail); try go_wp2)
        go_loopg [7, 8] k1 (fun kq v7 v8 w' => ∃ (x7_2 : Int) (x8_2 : Int), v7 = .int .i64 x7_2 ∧ v8 = .int .i64 x8_2 ∧ Aside0 (tithebarnlaw24_GroupsTop.l1 kq y227 t231 x6_1 x7_2 x8_2 = some r) ∧ Aside0 (kq ≤ k1) ∧ Aside0 (Kd.R k49 49 w' w.heap.size (fun _ => True) (.slice Ao15 t231.length co15) t231) ∧ Aside0 (Below w.heap.size w w'))
        case atStart => exact ⟨(0), (0), (by first | rfl | (simp; done) | (simp [*]; done)), (by first | rfl | (simp; done) | (simp [*]; done)), H', ⟨Nat.le_refl _⟩, ⟨by (with_reducible repeat (first | apply Kd.R_alloc | apply Kd.R_drewN | apply Kd.R_drew)); exact HO_5.out⟩, ⟨by repeat (first | (with_reducible first | exact HB.out | apply below_alloc | apply pw_below_drewN | apply below_drew1) | exact HB.out)⟩⟩
        case round =>
         clear H'
         try clear c1
         try clear q1
         try clear p2
         try clear c4
         try clear c6
         try clear c6b0
         try clear c6b1
         try clear c7
         try clear c7b0
         try clear c7b1
         try clear c9
         try clear c11
         try clear c11b0
         try clear c11b1
         try clear q13
         try clear c16
         try clear c16b0
         try clear p2
         try clear q1
         try clear q13
         obtain ⟨x7_2, x8_2, rfl, rfl, HA, HK2, HO_5, HB⟩ := hrel
         cases gk with
         | zero => exact absurd HA.out (by simp [tithebarnlaw24_GroupsTop.l1])
         | succ k2 =>
          have H := HA.out
          clear HA
          simp only [tithebarnlaw24_GroupsTop.l1] at H
          by_cases c17 : x8_2 < (y227.length : Int)
          ·rw [if_pos c17] at H
           have c17b0 : decide (x8_2 < (y227.length : Int)) = true := decide_eq_true c17
           clear c17
           by_cases c18 : 0 ≤ x8_2
           ·rw [if_pos c18] at H
            have c18b0 : decide (0 ≤ x8_2) = true := decide_eq_true c18
            clear c18
            by_cases c19 : 0 ≤ x6_1
            ·rw [if_pos c19] at H
             have c19b0 : decide (0 ≤ x6_1) = true := decide_eq_true c19
             clear c19
             by_cases c20 : x6_1 < (t231.length : Int)
             ·rw [if_pos c20] at H
              have c20b0 : decide (x6_1 < (t231.length : Int)) = true := decide_eq_true c20
              clear c20
              by_cases c21 : ((rd_T49 y227 x8_2).f1.f1) > ((rd_T49 t231 x6_1).f1.f1)
              ·rw [if_pos c21] at H
               have c21b0 : decide (((rd_T49 t231 x6_1).f1.f1) < ((rd_T49 y227 x8_2).f1.f1)) = true := decide_eq_true c21
               clear c21
               have H' := Aside0.mk H
               clear H
               have p234 : 0 ≤ (x8_2 : Int) := of_decide_eq_true (by first | (with_reducible assumption) | assumption)
               have q234 : x8_2 < (y227.length : Int) := of_decide_eq_true (by first | (with_reducible assumption) | assumption)
               obtain ⟨ad234, e234, hx234_0, hx234_1, hx234_2, hx234_3, hx234_4, hx234_5, hx234_6, hx234_7, hx234_8, hx234_9, hx234_10, hx234_11⟩ := at_T49 HR230.out x8_2 p234 q234
               cases e234
               replace hx234_0 := (HB.out.cell (World.block_lt_of_cell? w _ hx234_0)).trans hx234_0
               replace hx234_1 := (HB.out.cell (World.block_lt_of_cell? w _ hx234_1)).trans hx234_1
               replace hx234_2 := (HB.out.cell (World.block_lt_of_cell? w _ hx234_2)).trans hx234_2
               replace hx234_3 := (HB.out.cell (World.block_lt_of_cell? w _ hx234_3)).trans hx234_3
               replace hx234_4 := (HB.out.cell (World.block_lt_of_cell? w _ hx234_4)).trans hx234_4
               replace hx234_5 := (HB.out.cell (World.block_lt_of_cell? w _ hx234_5)).trans hx234_5
               replace hx234_6 := (HB.out.cell (World.block_lt_of_cell? w _ hx234_6)).trans hx234_6
               replace hx234_7 := (HB.out.cell (World.block_lt_of_cell? w _ hx234_7)).trans hx234_7
               replace hx234_8 := (HB.out.cell (World.block_lt_of_cell? w _ hx234_8)).trans hx234_8
               replace hx234_9 := (HB.out.cell (World.block_lt_of_cell? w _ hx234_9)).trans hx234_9
               replace hx234_10 := (HB.out.cell (World.block_lt_of_cell? w _ hx234_10)).trans hx234_10
               replace hx234_11 := (HB.out.cell (World.block_lt_of_cell? w _ hx234_11)).trans hx234_11
               replace p234 := eq_true p234
               replace q234 := eq_true q234
               have p235 : 0 ≤ (x6_1 : Int) := of_decide_eq_true (by first | (with_reducible assumption) | assumption)
               have q235 : x6_1 < (t231.length : Int) := of_decide_eq_true (by first | (with_reducible assumption) | assumption)
               obtain ⟨ad235, e235, hx235_0, hx235_1, hx235_2, hx235_3, hx235_4, hx235_5, hx235_6, hx235_7, hx235_8, hx235_9, hx235_10, hx235_11⟩ := at_T49 (Kd.R_reads' HO_5.out).2.2 x6_1 p235 q235
               cases e235
               replace p235 := eq_true p235
               replace q235 := eq_true q235
               go_wp2
               repeat (go_quiet (fail); try go_wp2)
               go_roundg k2
               case measure => have := HK1.out; have := HK2.out; omega
               case rel => exact ⟨(wrap64 (x7_2 + 1)), (wrap64 (x8_2 + 1)), (by first | rfl | (simp; done) | (simp [*]; done)), (by first | rfl | (simp; done) | (simp [*]; done)), H', ⟨by have := HK1.out; have := HK2.out; omega⟩, ⟨by (with_reducible repeat (first | apply Kd.R_alloc | apply Kd.R_drewN | apply Kd.R_drew)); exact HO_5.out⟩, ⟨by repeat (first | (with_reducible first | exact HB.out | apply below_alloc | apply pw_below_drewN | apply below_drew1) | exact HB.out)⟩⟩
              ·rw [if_neg c21] at H
               have c21b0 : decide (((rd_T49 t231 x6_1).f1.f1) < ((rd_T49 y227 x8_2).f1.f1)) = false := decide_eq_false c21
               clear c21
               have H' := Aside0.mk H
               clear H
               have p234 : 0 ≤ (x8_2 : Int) := of_decide_eq_true (by first | (with_reducible assumption) | assumption)
               have q234 : x8_2 < (y227.length : Int) := of_decide_eq_true (by first | (with_reducible assumption) | assumption)
               obtain ⟨ad234, e234, hx234_0, hx234_1, hx234_2, hx234_3, hx234_4, hx234_5, hx234_6, hx234_7, hx234_8, hx234_9, hx234_10, hx234_11⟩ := at_T49 HR230.out x8_2 p234 q234
               cases e234
               replace hx234_0 := (HB.out.cell (World.block_lt_of_cell? w _ hx234_0)).trans hx234_0
               replace hx234_1 := (HB.out.cell (World.block_lt_of_cell? w _ hx234_1)).trans hx234_1
               replace hx234_2 := (HB.out.cell (World.block_lt_of_cell? w _ hx234_2)).trans hx234_2
               replace hx234_3 := (HB.out.cell (World.block_lt_of_cell? w _ hx234_3)).trans hx234_3
               replace hx234_4 := (HB.out.cell (World.block_lt_of_cell? w _ hx234_4)).trans hx234_4
               replace hx234_5 := (HB.out.cell (World.block_lt_of_cell? w _ hx234_5)).trans hx234_5
               replace hx234_6 := (HB.out.cell (World.block_lt_of_cell? w _ hx234_6)).trans hx234_6
               replace hx234_7 := (HB.out.cell (World.block_lt_of_cell? w _ hx234_7)).trans hx234_7
               replace hx234_8 := (HB.out.cell (World.block_lt_of_cell? w _ hx234_8)).trans hx234_8
               replace hx234_9 := (HB.out.cell (World.block_lt_of_cell? w _ hx234_9)).trans hx234_9
               replace hx234_10 := (HB.out.cell (World.block_lt_of_cell? w _ hx234_10)).trans hx234_10
               replace hx234_11 := (HB.out.cell (World.block_lt_of_cell? w _ hx234_11)).trans hx234_11
               replace p234 := eq_true p234
               replace q234 := eq_true q234
               have p235 : 0 ≤ (x6_1 : Int) := of_decide_eq_true (by first | (with_reducible assumption) | assumption)
               have q235 : x6_1 < (t231.length : Int) := of_decide_eq_true (by first | (with_reducible assumption) | assumption)
               obtain ⟨ad235, e235, hx235_0, hx235_1, hx235_2, hx235_3, hx235_4, hx235_5, hx235_6, hx235_7, hx235_8, hx235_9, hx235_10, hx235_11⟩ := at_T49 (Kd.R_reads' HO_5.out).2.2 x6_1 p235 q235
               cases e235
               replace p235 := eq_true p235
               replace q235 := eq_true q235
               go_wp2
               repeat (go_quiet (fail); try go_wp2)
               go_roundg k2
               case measure => have := HK1.out; have := HK2.out; omega
               case rel => exact ⟨(x7_2), (wrap64 (x8_2 + 1)), (by first | rfl | (simp; done) | (simp [*]; done)), (by first | rfl | (simp; done) | (simp [*]; done)), H', ⟨by have := HK1.out; have := HK2.out; omega⟩, ⟨by (with_reducible repeat (first | apply Kd.R_alloc | apply Kd.R_drewN | apply Kd.R_drew)); exact HO_5.out⟩, ⟨by repeat (first | (with_reducible first | exact HB.out | apply below_alloc | apply pw_below_drewN | apply below_drew1) | exact HB.out)⟩⟩
             ·rw [if_neg c20] at H
              exact absurd H (by simp)
            ·rw [if_neg c19] at H
             exact absurd H (by simp)
           ·rw [if_neg c18] at H
            exact absurd H (by simp)
          ·rw [if_neg c17] at H
           have c17b0 : decide (x8_2 < (y227.length : Int)) = false := decide_eq_false c17
           clear c17
           by_cases c22 : x7_2 > x6_1
           ·rw [if_pos c22] at H
            have c22b0 : decide (x6_1 < x7_2) = true := decide_eq_true c22
            clear c22
            obtain rfl := Option.some.inj H
            go_wp2
            repeat (go_quiet (fail); try go_wp2)
            go_ret
            exact ⟨by first | rfl | (simp [errW_none, errW_some] <;> rfl) | (simp only [← hji5, ← hji9, ← hji10]; first | rfl | (simp [errW_none, errW_some] <;> rfl)) | (simp [*, errW_none, errW_some] <;> rfl), by repeat (first | (with_reducible first | exact HB.out | apply below_alloc | apply pw_below_drewN | apply below_drew1) | exact HB.out)⟩
           ·rw [if_neg c22] at H
            have c22b0 : decide (x6_1 < x7_2) = false := decide_eq_false c22
            clear c22
            by_cases c23 : x6_1 > 0
            ·rw [if_pos c23] at H
             have c23b0 : decide (0 < x6_1) = true := decide_eq_true c23
             clear c23
             obtain ⟨ji24, hji24⟩ : ∃ j_ : Int, (wrap64 (x6_1 - 1)) = j_ := ⟨_, rfl⟩
             replace H : (if 0 ≤ (ji24) then (if (ji24) < (t231.length : Int) then (if 0 ≤ x6_1 then (if x6_1 < (t231.length : Int) then (if ((rd_T49 t231 (ji24)).f1.f1) < ((rd_T49 t231 x6_1).f1.f1) then (some false) else (tithebarnlaw24_GroupsTop.l0 k2 y227 t231 (wrap64 (x6_1 + 1)))) else (none)) else (none)) else (none)) else (none)) = some r := by first | (rw [hji24] at H; exact H) | (simp only [hji24] at H ⊢; exact H)
             have hji24w : (IntKind.i64.wrap (x6_1 - 1)) = ji24 := (i64_w _).trans hji24
             by_cases c25 : 0 ≤ (ji24)
             ·rw [if_pos c25] at H
              have c25b0 : decide (0 ≤ (ji24)) = true := decide_eq_true c25
              clear c25
              by_cases c26 : (ji24) < (t231.length : Int)
              ·rw [if_pos c26] at H
               have c26b0 : decide ((ji24) < (t231.length : Int)) = true := decide_eq_true c26
               clear c26
               by_cases c27 : 0 ≤ x6_1
               ·rw [if_pos c27] at H
                have c27b0 : decide (0 ≤ x6_1) = true := decide_eq_true c27
                clear c27
                by_cases c28 : x6_1 < (t231.length : Int)
                ·rw [if_pos c28] at H
                 have c28b0 : decide (x6_1 < (t231.length : Int)) = true := decide_eq_true c28
                 clear c28
                 by_cases c29 : ((rd_T49 t231 (ji24)).f1.f1) < ((rd_T49 t231 x6_1).f1.f1)
                 ·rw [if_pos c29] at H
                  have c29b0 : decide (((rd_T49 t231 (ji24)).f1.f1) < ((rd_T49 t231 x6_1).f1.f1)) = true := decide_eq_true c29
                  clear c29
                  obtain rfl := Option.some.inj H
                  have p236 : 0 ≤ ((ji24) : Int) := of_decide_eq_true (by first | (with_reducible assumption) | assumption)
                  have q236 : (ji24) < (t231.length : Int) := of_decide_eq_true (by first | (with_reducible assumption) | assumption)
                  obtain ⟨ad236, e236, hx236_0, hx236_1, hx236_2, hx236_3, hx236_4, hx236_5, hx236_6, hx236_7, hx236_8, hx236_9, hx236_10, hx236_11⟩ := at_T49 (Kd.R_reads' HO_5.out).2.2 (ji24) p236 q236
                  cases e236
                  replace p236 := eq_true p236
                  replace q236 := eq_true q236
                  have p237 : 0 ≤ (x6_1 : Int) := of_decide_eq_true (by first | (with_reducible assumption) | assumption)
                  have q237 : x6_1 < (t231.length : Int) := of_decide_eq_true (by first | (with_reducible assumption) | assumption)
                  obtain ⟨ad237, e237, hx237_0, hx237_1, hx237_2, hx237_3, hx237_4, hx237_5, hx237_6, hx237_7, hx237_8, hx237_9, hx237_10, hx237_11⟩ := at_T49 (Kd.R_reads' HO_5.out).2.2 x6_1 p237 q237
                  obtain rfl : ad236 = ad237 := (by injection e237)
                  replace p237 := eq_true p237
                  replace q237 := eq_true q237
                  go_wp2
                  repeat (go_quiet (fail); try go_wp2)
                  go_ret
                  exact ⟨by first | rfl | (simp [errW_none, errW_some] <;> rfl) | (simp only [← hji5, ← hji9, ← hji10, ← hji24]; first | rfl | (simp [errW_none, errW_some] <;> rfl)) | (simp [*, errW_none, errW_some] <;> rfl), by repeat (first | (with_reducible first | exact HB.out | apply below_alloc | apply pw_below_drewN | apply below_drew1) | exact HB.out)⟩
                 ·rw [if_neg c29] at H
                  have c29b0 : decide (((rd_T49 t231 (ji24)).f1.f1) < ((rd_T49 t231 x6_1).f1.f1)) = false := decide_eq_false c29
                  clear c29
                  have H' := Aside0.mk H
                  clear H
                  have p236 : 0 ≤ ((ji24) : Int) := of_decide_eq_true (by first | (with_reducible assumption) | assumption)
                  have q236 : (ji24) < (t231.length : Int) := of_decide_eq_true (by first | (with_reducible assumption) | assumption)
                  obtain ⟨ad236, e236, hx236_0, hx236_1, hx236_2, hx236_3, hx236_4, hx236_5, hx236_6, hx236_7, hx236_8, hx236_9, hx236_10, hx236_11⟩ := at_T49 (Kd.R_reads' HO_5.out).2.2 (ji24) p236 q236
                  cases e236
                  replace p236 := eq_true p236
                  replace q236 := eq_true q236
                  have p237 : 0 ≤ (x6_1 : Int) := of_decide_eq_true (by first | (with_reducible assumption) | assumption)
                  have q237 : x6_1 < (t231.length : Int) := of_decide_eq_true (by first | (with_reducible assumption) | assumption)
                  obtain ⟨ad237, e237, hx237_0, hx237_1, hx237_2, hx237_3, hx237_4, hx237_5, hx237_6, hx237_7, hx237_8, hx237_9, hx237_10, hx237_11⟩ := at_T49 (Kd.R_reads' HO_5.out).2.2 x6_1 p237 q237
                  obtain rfl : ad236 = ad237 := (by injection e237)
                  replace p237 := eq_true p237
                  replace q237 := eq_true q237
                  go_wp2
                  repeat (go_quiet (fail); try go_wp2)
                  go_roundg k2
                  case measure => have := HK1.out; have := HK2.out; omega
                  case rel => exact ⟨(wrap64 (x6_1 + 1)), (by first | rfl | (simp; done) | (simp [*]; done)), H', ⟨by have := HK1.out; have := HK2.out; omega⟩, ⟨by (with_reducible repeat (first | apply Kd.R_alloc | apply Kd.R_drewN | apply Kd.R_drew)); exact HO_5.out⟩, ⟨by repeat (first | (with_reducible first | exact HB.out | apply below_alloc | apply pw_below_drewN | apply below_drew1) | exact HB.out)⟩⟩
                ·rw [if_neg c28] at H
                 exact absurd H (by simp)
               ·rw [if_neg c27] at H
                exact absurd H (by simp)
              ·rw [if_neg c26] at H
               exact absurd H (by simp)
             ·rw [if_neg c25] at H
              exact absurd H (by simp)
            ·rw [if_neg c23] at H
             have c23b0 : decide (0 < x6_1) = false := decide_eq_false c23
             clear c23
             have H' := Aside0.mk H
             clear H
             go_wp2
             repeat (go_quiet (fail); try go_wp2)
             go_roundg k2
             case measure => have := HK1.out; have := HK2.out; omega
             case rel => exact ⟨(wrap64 (x6_1 + 1)), (by first | rfl | (simp; done) | (simp [*]; done)), H', ⟨by have := HK1.out; have := HK2.out; omega⟩, ⟨by (with_reducible repeat (first | apply Kd.R_alloc | apply Kd.R_drewN | apply Kd.R_drew)); exact HO_5.out⟩, ⟨by repeat (first | (with_reducible first | exact HB.out | apply below_alloc | apply pw_below_drewN | apply below_drew1) | exact HB.out)⟩⟩
       ·rw [if_neg c16] at H
        have c16b0 : decide (x6_1 < (t231.length : Int)) = false := decide_eq_false c16
        clear c16
        obtain rfl := Option.some.inj H
        go_wp2
        repeat (go_quiet (fail); try go_wp2)
        go_ret
        exact ⟨by first | rfl | (simp [errW_none, errW_some] <;> rfl) | (simp only [← hji5, ← hji9, ← hji10]; first | rfl | (simp [errW_none, errW_some] <;> rfl)) | (simp [*, errW_none, errW_some] <;> rfl), by repeat (first | (with_reducible first | exact HB.out | apply below_alloc | apply pw_below_drewN | apply below_drew1) | exact HB.out)⟩
    ·rw [if_neg c11] at H
     have c11b0 : ((t231.length : Int) == (ji10)) = false := beq_eq_false_iff_ne.mpr c11
     have c11b1 : ((t231.length : Int) != (ji10)) = true := bne_iff_ne.mpr c11
     obtain rfl := Option.some.inj H
     go_enter Try.func9, Try.ntmps9
     go_wp2_with (first | (go_at_call 24; (with_reducible refine (tithebarnlaw24_lives.calls k  true _ A3.out).mono ?_); rintro e w30 ⟨rfl, hb⟩; have n0_ := Aside0.mk (below_step (by repeat (first | (with_reducible first | exact HB.out | apply below_alloc | apply pw_below_drewN | apply below_drew1) | exact HB.out)) hb); clear HB; have HB := n0_; clear n0_; (try clear hb); (try clear hb2); (try clear hk); (try clear hi); have q31 : ((ji5) : Int) ≤ ((l0.length : Int) : Int) := of_decide_eq_true (by first | (with_reducible assumption) | assumption); obtain ⟨i031, hi031, _, hsz31, _⟩ := info_parts info49; have hroom31 : l0.length ≤ c0 := HC0.out; have hC31 : Kd.C k49 _ A0 l0.length l0 := HR0.out; have hcut31 := cut_to (P := Try.prog) 44 49 .i64 Try.underlying44 hi031 A0 l0.length c0 (ji5) (of_decide_eq_true (by first | (with_reducible assumption) | assumption)) q31 hroom31; have hr31 := Kd.C_take (m := ((ji5) : Int).toNat) hC31 (by omega); have hy31 : y227.length = ((ji5) : Int).toNat := (by rw [Ny227.out, List.length_take]; omega); rw [← Ny227.out] at hr31; rw [← hy31] at hcut31; have HR230 := Aside0.mk hr31; have HC230 := Aside0.mk (show y227.length ≤ c0 from by omega); clear hr31 hC31 hroom31 hi031 hsz31; have KY31 := Aside0.mk hy31; clear hy31; replace q31 := eq_true q31) | (go_at_call 25; (with_reducible refine (groups_Top.calls _ _ y227 a1 t231 _ ?side1 ?side2 A8.out).mono ?_); (case side1 => repeat (first | exact (Kd.C_below HR230.out HB.out) | (with_reducible refine Kd.C_alloc ?_ _) | (with_reducible refine Kd.C_drewN ?_ _) | (with_reducible refine Kd.C_drew ?_))); (case side2 => exact HC230.out); rintro e w32 ⟨v232, rfl, ho0, hb⟩; have n0_ := Aside0.mk (Kd.R_lower ho0 (below_size (by repeat (first | (with_reducible first | exact HB.out | apply below_alloc | apply pw_below_drewN | apply below_drew1) | exact HB.out)))); have n1_ := Aside0.mk (below_step (by repeat (first | (with_reducible first | exact HB.out | apply below_alloc | apply pw_below_drewN | apply below_drew1) | exact HB.out)) hb); clear HB; have HO233 := n0_; have HB := n1_; clear n0_ n1_; (try clear hb); (try clear hb2); (try clear hk); (try clear hi); (try clear ho0); obtain ⟨Ao33, co33, eo33⟩ := Kd.R_slice HO233.out; subst eo33))
     repeat (go_quiet (first | (go_at_call 24; (with_reducible refine (tithebarnlaw24_lives.calls k  true _ A3.out).mono ?_); rintro e w30 ⟨rfl, hb⟩; have n0_ := Aside0.mk (below_step (by repeat (first | (with_reducible first | exact HB.out | apply below_alloc | apply pw_below_drewN | apply below_drew1) | exact HB.out)) hb); clear HB; have HB := n0_; clear n0_; (try clear hb); (try clear hb2); (try clear hk); (try clear hi); have q31 : ((ji5) : Int) ≤ ((l0.length : Int) : Int) := of_decide_eq_true (by first | (with_reducible assumption) | assumption); obtain ⟨i031, hi031, _, hsz31, _⟩ := info_parts info49; have hroom31 : l0.length ≤ c0 := HC0.out; have hC31 : Kd.C k49 _ A0 l0.length l0 := HR0.out; have hcut31 := cut_to (P := Try.prog) 44 49 .i64 Try.underlying44 hi031 A0 l0.length c0 (ji5) (of_decide_eq_true (by first | (with_reducible assumption) | assumption)) q31 hroom31; have hr31 := Kd.C_take (m := ((ji5) : Int).toNat) hC31 (by omega); have hy31 : y227.length = ((ji5) : Int).toNat := (by rw [Ny227.out, List.length_take]; omega); rw [← Ny227.out] at hr31; rw [← hy31] at hcut31; have HR230 := Aside0.mk hr31; have HC230 := Aside0.mk (show y227.length ≤ c0 from by omega); clear hr31 hC31 hroom31 hi031 hsz31; have KY31 := Aside0.mk hy31; clear hy31; replace q31 := eq_true q31) | (go_at_call 25; (with_reducible refine (groups_Top.calls _ _ y227 a1 t231 _ ?side1 ?side2 A8.out).mono ?_); (case side1 => repeat (first | exact (Kd.C_below HR230.out HB.out) | (with_reducible refine Kd.C_alloc ?_ _) | (with_reducible refine Kd.C_drewN ?_ _) | (with_reducible refine Kd.C_drew ?_))); (case side2 => exact HC230.out); rintro e w32 ⟨v232, rfl, ho0, hb⟩; have n0_ := Aside0.mk (Kd.R_lower ho0 (below_size (by repeat (first | (with_reducible first | exact HB.out | apply below_alloc | apply pw_below_drewN | apply below_drew1) | exact HB.out)))); have n1_ := Aside0.mk (below_step (by repeat (first | (with_reducible first | exact HB.out | apply below_alloc | apply pw_below_drewN | apply below_drew1) | exact HB.out)) hb); clear HB; have HO233 := n0_; have HB := n1_; clear n0_ n1_; (try clear hb); (try clear hb2); (try clear hk); (try clear hi); (try clear ho0); obtain ⟨Ao33, co33, eo33⟩ := Kd.R_slice HO233.out; subst eo33)); try go_wp2_with (first | (go_at_call 24; (with_reducible refine (tithebarnlaw24_lives.calls k  true _ A3.out).mono ?_); rintro e w30 ⟨rfl, hb⟩; have n0_ := Aside0.mk (below_step (by repeat (first | (with_reducible first | exact HB.out | apply below_alloc | apply pw_below_drewN | apply below_drew1) | exact HB.out)) hb); clear HB; have HB := n0_; clear n0_; (try clear hb); (try clear hb2); (try clear hk); (try clear hi); have q31 : ((ji5) : Int) ≤ ((l0.length : Int) : Int) := of_decide_eq_true (by first | (with_reducible assumption) | assumption); obtain ⟨i031, hi031, _, hsz31, _⟩ := info_parts info49; have hroom31 : l0.length ≤ c0 := HC0.out; have hC31 : Kd.C k49 _ A0 l0.length l0 := HR0.out; have hcut31 := cut_to (P := Try.prog) 44 49 .i64 Try.underlying44 hi031 A0 l0.length c0 (ji5) (of_decide_eq_true (by first | (with_reducible assumption) | assumption)) q31 hroom31; have hr31 := Kd.C_take (m := ((ji5) : Int).toNat) hC31 (by omega); have hy31 : y227.length = ((ji5) : Int).toNat := (by rw [Ny227.out, List.length_take]; omega); rw [← Ny227.out] at hr31; rw [← hy31] at hcut31; have HR230 := Aside0.mk hr31; have HC230 := Aside0.mk (show y227.length ≤ c0 from by omega); clear hr31 hC31 hroom31 hi031 hsz31; have KY31 := Aside0.mk hy31; clear hy31; replace q31 := eq_true q31) | (go_at_call 25; (with_reducible refine (groups_Top.calls _ _ y227 a1 t231 _ ?side1 ?side2 A8.out).mono ?_); (case side1 => repeat (first | exact (Kd.C_below HR230.out HB.out) | (with_reducible refine Kd.C_alloc ?_ _) | (with_reducible refine Kd.C_drewN ?_ _) | (with_reducible refine Kd.C_drew ?_))); (case side2 => exact HC230.out); rintro e w32 ⟨v232, rfl, ho0, hb⟩; have n0_ := Aside0.mk (Kd.R_lower ho0 (below_size (by repeat (first | (with_reducible first | exact HB.out | apply below_alloc | apply pw_below_drewN | apply below_drew1) | exact HB.out)))); have n1_ := Aside0.mk (below_step (by repeat (first | (with_reducible first | exact HB.out | apply below_alloc | apply pw_below_drewN | apply below_drew1) | exact HB.out)) hb); clear HB; have HO233 := n0_; have HB := n1_; clear n0_ n1_; (try clear hb); (try clear hb2); (try clear hk); (try clear hi); (try clear ho0); obtain ⟨Ao33, co33, eo33⟩ := Kd.R_slice HO233.out; subst eo33)))
     go_ret
     exact ⟨by first | rfl | (simp [errW_none, errW_some] <;> rfl) | (simp only [← hji5, ← hji9, ← hji10]; first | rfl | (simp [errW_none, errW_some] <;> rfl)) | (simp [*, errW_none, errW_some] <;> rfl), by repeat (first | (with_reducible first | exact HB.out | apply below_alloc | apply pw_below_drewN | apply below_drew1) | exact HB.out)⟩
   ·rw [if_neg c7] at H
    exact absurd H (by simp)
  ·rw [if_neg c6] at H
   exact absurd H (by simp)
 ·replace c4 := Bool.eq_false_iff.mpr c4
  subst c4
  have H1 : (some false) = some r := by rw [if_neg (show ¬ (false = true) by decide)] at H; exact H
  clear H
  have H := H1
  clear H1
  obtain rfl := Option.some.inj H
  go_enter Try.func9, Try.ntmps9
  go_wp2_with (first | (go_at_call 24; (with_reducible refine (tithebarnlaw24_lives.calls k  false _ A3.out).mono ?_); rintro e w34 ⟨rfl, hb⟩; have n0_ := Aside0.mk (below_step (by repeat (first | (with_reducible first | exact HB.out | apply below_alloc | apply pw_below_drewN | apply below_drew1) | exact HB.out)) hb); clear HB; have HB := n0_; clear n0_; (try clear hb); (try clear hb2); (try clear hk); (try clear hi)))
  repeat (go_quiet (first | (go_at_call 24; (with_reducible refine (tithebarnlaw24_lives.calls k  false _ A3.out).mono ?_); rintro e w34 ⟨rfl, hb⟩; have n0_ := Aside0.mk (below_step (by repeat (first | (with_reducible first | exact HB.out | apply below_alloc | apply pw_below_drewN | apply below_drew1) | exact HB.out)) hb); clear HB; have HB := n0_; clear n0_; (try clear hb); (try clear hb2); (try clear hk); (try clear hi))); try go_wp2_with (first | (go_at_call 24; (with_reducible refine (tithebarnlaw24_lives.calls k  false _ A3.out).mono ?_); rintro e w34 ⟨rfl, hb⟩; have n0_ := Aside0.mk (below_step (by repeat (first | (with_reducible first | exact HB.out | apply below_alloc | apply pw_below_drewN | apply below_drew1) | exact HB.out)) hb); clear HB; have HB := n0_; clear n0_; (try clear hb); (try clear hb2); (try clear hk); (try clear hi))))
  go_ret
  exact ⟨by first | rfl | (simp [errW_none, errW_some] <;> rfl) | (simp [*, errW_none, errW_some] <;> rfl), by repeat (first | (with_reducible first | exact HB.out | apply below_alloc | apply pw_below_drewN | apply below_drew1) | exact HB.out)⟩

end Go.Proofs.Ythlelhndmnkmjaa.Pr
