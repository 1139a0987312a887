-- printed by xprint.py (this seat's own program, over the kit's print.py); not trusted: Lean checks it
import Derived.Test.YtknkncidlfobiaaPr0
import Derived.Test.YtknkncidlfobiaaPrf43xc
namespace Go.Proofs.Ytknkncidlfobiaa.Pr
open Go.RowKit Go.Proofs.YtknkncidlfobiaaW.PrintWords Go.Proofs.YtknkncidlfobiaaW.PrintLast Go.Proofs.YtknkncidlfobiaaW.PrintMore
attribute [local go_sem] max2_int min2_int max_two min_two max_three min_three max_four min_four   -- for this text's walks alone
set_option linter.unusedVariables false
set_option linter.unusedSimpArgs false

/-! ### sums_Project: function 29 -/
mutual
def sums_Project.l0 : Nat → List Int → List (List (S23)) → List (List (S23)) → Int → Int → Option ((List (List (S23))) × Int)
  | 0, _, _, _, _, _ => none
  | k + 1, x1, x6, x12, x13, x14 => if x14 < x13 then (if 0 ≤ x14 then (if x14 < (x12.length : Int) then ((containsNone.f x1 (rd_L6 x12 x14)).bind fun t237 => (if t237 = true then (some (([] : List (List (S23))), 7)) else (sums_Project.l1 k x1 x6 ([] : List (S23)) x12 x13 x14 x1 (x1.length : Int) 0 (rd_L6 x12 x14)))) else (none)) else (none)) else (some (x6, 0))
def sums_Project.l1 : Nat → List Int → List (List (S23)) → List (S23) → List (List (S23)) → Int → Int → List Int → Int → Int → List (S23) → Option ((List (List (S23))) × Int)
  | 0, _, _, _, _, _, _, _, _, _, _ => none
  | k + 1, x1, x6, x9, x12, x13, x14, x21, x22, x23, x237000 => if x23 < x22 then (if 0 ≤ x23 then (if x23 < (x21.length : Int) then (if 0 ≤ (rd x21 x23) then (if (rd x21 x23) < (x237000.length : Int) then (if x9.length < 4398046511104 then (sums_Project.l1 k x1 x6 (x9 ++ [(⟨(rd_T23 x237000 (rd x21 x23)).f0, (rd_T23 x237000 (rd x21 x23)).f1, (rd_T23 x237000 (rd x21 x23)).f2⟩ : S23)]) x12 x13 x14 x21 x22 (wrap64 (x23 + 1)) x237000) else (none)) else (none)) else (none)) else (none)) else (none)) else (if x6.length < 5864062014805 then (sums_Project.l0 k x1 (x6 ++ [x9]) x12 x13 (wrap64 (x14 + 1))) else (none))
end
def sums_Project.f (k : Nat) (l0 : List (List (S23))) (l1 : List Int) : Option ((List (List (S23))) × Int) := sums_Project.l0 k l1 ([] : List (List (S23))) l0 (l0.length : Int) 0
theorem sums_Project.mono_l : ∀ k, (∀ y0 y1 y2 y3 y4, LeO (sums_Project.l0 k y0 y1 y2 y3 y4) (sums_Project.l0 (k + 1) y0 y1 y2 y3 y4)) ∧ (∀ y0 y1 y2 y3 y4 y5 y6 y7 y8 y9, LeO (sums_Project.l1 k y0 y1 y2 y3 y4 y5 y6 y7 y8 y9) (sums_Project.l1 (k + 1) y0 y1 y2 y3 y4 y5 y6 y7 y8 y9))
  | 0 => ⟨fun _ _ _ _ _ r h => by simp [sums_Project.l0] at h, fun _ _ _ _ _ _ _ _ _ _ r h => by simp [sums_Project.l1] at h⟩
  | k + 1 => by
    obtain ⟨ih0, ih1⟩ := sums_Project.mono_l k
    refine ⟨?_, ?_⟩
    · intro y0 y1 y2 y3 y4
      unfold sums_Project.l0
      repeat' first
      | (with_reducible exact ih0 _ _ _ _ _)
      | (with_reducible exact ih1 _ _ _ _ _ _ _ _ _ _)
      | (with_reducible exact LeO.refl _)
      | (with_reducible exact LeO.none _)
      | (with_reducible refine LeO.ite ?_ ?_)
      | (with_reducible refine LeO.bind ?_ (fun _ => ?_))
      | exact ih0 _ _ _ _ _
      | exact ih1 _ _ _ _ _ _ _ _ _ _
      | exact LeO.none _
      | refine LeO.ite ?_ ?_
      | refine LeO.bind ?_ (fun _ => ?_)
    · intro y0 y1 y2 y3 y4 y5 y6 y7 y8 y9
      unfold sums_Project.l1
      repeat' first
      | (with_reducible exact ih0 _ _ _ _ _)
      | (with_reducible exact ih1 _ _ _ _ _ _ _ _ _ _)
      | (with_reducible exact LeO.refl _)
      | (with_reducible exact LeO.none _)
      | (with_reducible refine LeO.ite ?_ ?_)
      | (with_reducible refine LeO.bind ?_ (fun _ => ?_))
      | exact ih0 _ _ _ _ _
      | exact ih1 _ _ _ _ _ _ _ _ _ _
      | exact LeO.none _
      | refine LeO.ite ?_ ?_
      | refine LeO.bind ?_ (fun _ => ?_)
theorem sums_Project.mono : ∀ a0 a1 k, LeO (sums_Project.f k a0 a1) (sums_Project.f (k + 1) a0 a1) := by
  intro a0 a1 k
  obtain ⟨ih0, ih1⟩ := sums_Project.mono_l k
  unfold sums_Project.f
  repeat' first
      | (with_reducible exact ih0 _ _ _ _ _)
      | (with_reducible exact ih1 _ _ _ _ _ _ _ _ _ _)
      | (with_reducible exact LeO.refl _)
      | (with_reducible exact LeO.none _)
      | (with_reducible refine LeO.ite ?_ ?_)
      | (with_reducible refine LeO.bind ?_ (fun _ => ?_))
      | exact ih0 _ _ _ _ _
      | exact ih1 _ _ _ _ _ _ _ _ _ _
      | exact LeO.none _
      | refine LeO.ite ?_ ?_
      | refine LeO.bind ?_ (fun _ => ?_)
set_option maxHeartbeats 8000000 in
set_option maxRecDepth 100000 in
theorem sums_Project.calls (k : Nat) (A0 : Option Addr) (c0 : Nat) (l0 : List (List (S23))) (A1 : Option Addr) (c1 : Nat) (l1 : List Int) (r1 : List (List (S23))) (r2 : Int) (w : World) (hr0 : Kd.C (Kd.slice 23 k23) w A0 l0.length l0) (hc0 : l0.length ≤ c0) (hr1 : Kd.C (Kd.int .i64) w A1 l1.length l1) (hc1 : l1.length ≤ c1) (h : sums_Project.f k l0 l1 = some (r1, r2)) :
    Calls Try.prog 29 #[.slice A0 l0.length c0, .slice A1 l1.length c1] w fun e w' => ∃ v0_ : Value, e = .returned (.tuple #[v0_, .int .i64 r2]) ∧ Kd.S (Kd.slice 23 k23) 34 w' w.heap.size (fun _ => True) v0_ r1 ∧ Below w.heap.size w w' := by
  have hu23 := Try.underlying23
  have HR0 := Aside0.mk hr0
  have HC0 := Aside0.mk hc0
  clear hr0 hc0
  have HR1 := Aside0.mk hr1
  have HC1 := Aside0.mk hc1
  clear hr1 hc1
  have HB := Aside0.mk (Below.refl w.heap.size w)
  have H : (sums_Project.l0 k l1 ([] : List (List (S23))) l0 (l0.length : Int) 0) = some (r1, r2) := h
  clear h
  have H' := Aside0.mk H
  clear H
  go_enter Try.func29, Try.ntmps29
  go_wp2
  go_loopg [6, 14] k (fun kq v6 v14 w' => ∃ (x6_1 : List (List (S23))) (x14_1 : Int), v14 = .int .i64 x14_1 ∧ Aside0 (sums_Project.l0 kq l1 x6_1 l0 (l0.length : Int) x14_1 = some (r1, r2)) ∧ Aside0 (kq ≤ k) ∧ Aside0 (Kd.S (Kd.slice 23 k23) 34 w' w.heap.size (fun _ => True) v6 x6_1) ∧ Aside0 (Below w.heap.size w w'))
  case atStart => exact ⟨(([] : List (List (S23)))), (0), (by first | rfl | (simp; done) | (simp [*]; done)), H', ⟨Nat.le_refl _⟩, ⟨by first | exact Kd.S_nil _ _ _ _ _ | exact Kd.N_nil _ _ _ _ _ | exact Kd.V_nil _ _ _ _ _ | exact Kd.Q_nil _ _ _ _ _ | exact Kd.R_nil _ _ _ _ _⟩, ⟨by repeat (first | (with_reducible first | exact HB.out | apply below_alloc | apply pw_below_drewN | apply below_drew1) | exact HB.out)⟩⟩
  case round =>
    clear H'
    try clear c1
    try clear c2
    try clear p2
    obtain ⟨x6_1, x14_1, rfl, HA, HK1, HO_6, HB⟩ := hrel
    cases gk with
    | zero => exact absurd HA.out (by simp [sums_Project.l0])
    | succ k1 =>
      have H := HA.out
      clear HA
      simp only [sums_Project.l0] at H
      by_cases c3 : x14_1 < (l0.length : Int)
      · rw [if_pos c3] at H
        have c3b0 : decide (x14_1 < (l0.length : Int)) = true := decide_eq_true c3
        clear c3
        by_cases c4 : 0 ≤ x14_1
        · rw [if_pos c4] at H
          have c4b0 : decide (0 ≤ x14_1) = true := decide_eq_true c4
          clear c4
          by_cases c5 : x14_1 < (l0.length : Int)
          · rw [if_pos c5] at H
            have c5b0 : decide (x14_1 < (l0.length : Int)) = true := decide_eq_true c5
            clear c5
            replace H := Option.bind_eq_some_iff.mp H
            obtain ⟨t237, A60, H⟩ := H
            replace H : (if t237 = true then (some (([] : List (List (S23))), 7)) else (sums_Project.l1 k1 l1 x6_1 ([] : List (S23)) l0 (l0.length : Int) x14_1 l1 (l1.length : Int) 0 (rd_L6 l0 x14_1))) = some (r1, r2) := H
            have A6 := Aside0.mk A60
            clear A60
            by_cases c7 : t237 = true
            · subst c7
              have H1 : (some (([] : List (List (S23))), 7)) = some (r1, r2) := by rw [if_pos rfl] at H; exact H
              clear H
              have H := H1
              clear H1
              simp only [Option.some.injEq, Prod.mk.injEq] at H
              obtain ⟨rfl, rfl⟩ := H
              have p235 : 0 ≤ (x14_1 : Int) := of_decide_eq_true (by first | (with_reducible assumption) | assumption)
              have q235 : x14_1 < (l0.length : Int) := of_decide_eq_true (by first | (with_reducible assumption) | assumption)
              obtain ⟨ad235, A235_0, c235_0, e235, hx235_0, hl235_0, hi235_0⟩ := at_L6 HR0.out x14_1 p235 q235
              cases e235
              replace hx235_0 := (HB.out.cell (World.block_lt_of_cell? w _ hx235_0)).trans hx235_0
              have HR235_0 := Aside0.mk hi235_0
              have HC235_0 := Aside0.mk hl235_0
              clear hi235_0 hl235_0
              replace p235 := eq_true p235
              replace q235 := eq_true q235
              go_wp2_with (first | ((with_reducible refine gate_dst (N := 8) rfl ?_); refine box_event ?hg (N := 8) ?hd (cs := #[.slice none 0 0]) (t := 34) ?hr ?_; (case hd => rfl); (case hg => rfl); (case hr => first | (go_simp; done) | (go_simp; rfl)); intro gb236 hg w8 hbox hb; have n0_ := Aside0.mk (Kd.S_below (Kd.S_elderB (by (with_reducible repeat (first | apply Kd.S_alloc | apply Kd.S_drewN | apply Kd.S_drew)); exact HO_6.out) gb236 (Nat.le_of_eq hg.symm)) hb); have n1_ := Aside0.mk (below_step (by repeat (first | (with_reducible first | exact HB.out | apply below_alloc | apply pw_below_drewN | apply below_drew1) | exact HB.out)) hb); have n2_ := Aside0.mk (hbox); have n3_ := Aside0.mk ((by rw [hg]; exact (below_size (by repeat (first | (with_reducible first | exact HB.out | apply below_alloc | apply pw_below_drewN | apply below_drew1) | exact HB.out))) : w.heap.size ≤ gb236)); have n4_ := Aside0.mk ((by rw [hg]; exact (below_size (by repeat (first | (with_reducible first | exact HB.out | apply below_alloc | apply pw_below_drewN | apply below_drew1) | exact HB.out))) : w.heap.size ≤ gb236)); clear HO_6; clear HB; have HO_6 := n0_; have HB := n1_; have BK236 := n2_; have GW236 := n3_; have GE236 := n4_; clear n0_ n1_ n2_ n3_ n4_; clear hb hbox hg; have hcz9_0 : w8.cell? ⟨gb236, 0, none⟩ = some (.slice none 0 0) := (blk_cell BK236.out 0).trans rfl; have hfz9_0 := blk_frozen BK236.out 0) | (go_at_call 43; (with_reducible refine (containsNone.calls A1 c1 l1 gb236 A235_0 c235_0 (rd_L6 l0 x14_1) true _ ?side1 ?side2 ?side3 ?side4 ?side5 A6.out).mono ?_); (case side1 => exact Kd.C_below HR1.out (by repeat (first | (with_reducible first | exact HB.out | apply below_alloc | apply pw_below_drewN | apply below_drew1 | refine below_set ?_ GE236.out) | exact HB.out))); (case side2 => exact HC1.out); (case side3 => exact by (with_reducible repeat (first | refine blk_drewN ?_ _ | refine blk_drew ?_ | refine blk_alloc ?_ _)); refine blk_put (cs := #[.slice none 0 0]) ?_ 0 _ rfl; (with_reducible repeat (first | refine blk_drewN ?_ _ | refine blk_drew ?_ | refine blk_alloc ?_ _)); exact BK236.out); (case side4 => exact Kd.C_below HR235_0.out (by repeat (first | (with_reducible first | exact HB.out | apply below_alloc | apply pw_below_drewN | apply below_drew1 | refine below_set ?_ GE236.out) | exact HB.out))); (case side5 => exact HC235_0.out); rintro e w10 ⟨rfl, hb⟩; have n0_ := Aside0.mk (Kd.S_below (by (with_reducible repeat (first | apply Kd.S_alloc | apply Kd.S_drewN | apply Kd.S_drew)); exact (Kd.S_mono (Kd.S_far (p := ⟨gb236, 0, none⟩) (Kd.S_mono HO_6.out (fun k_ hk => (⟨hk, hk.2⟩ : _ ∧ k_ ≠ gb236))) (fun _ hk => hk.2) (.slice A235_0 (rd_L6 l0 x14_1).length c235_0)) (fun _ h_ => h_.1))) hb); have n1_ := Aside0.mk (blk_below (g := gb236) (o := .cells #[.slice A235_0 (rd_L6 l0 x14_1).length c235_0] 34 (0, 0)) (by (with_reducible repeat (first | refine blk_drewN ?_ _ | refine blk_drew ?_ | refine blk_alloc ?_ _)); refine blk_put (cs := #[.slice none 0 0]) ?_ 0 _ rfl; (with_reducible repeat (first | refine blk_drewN ?_ _ | refine blk_drew ?_ | refine blk_alloc ?_ _)); exact BK236.out) hb); have n2_ := Aside0.mk (below_step (by repeat (first | (with_reducible first | exact HB.out | apply below_alloc | apply pw_below_drewN | apply below_drew1 | refine below_set ?_ GE236.out) | exact HB.out)) hb); clear HO_6; clear BK236; clear HB; have HO_6 := n0_; have BK236 := n1_; have HB := n2_; clear n0_ n1_ n2_; (try clear hb); (try clear hb2); (try clear hk); (try clear hi)))
              go_ret2
              exact ⟨_, by first | rfl | (simp [errW_none, errW_some] <;> rfl) | (simp [*, errW_none, errW_some] <;> rfl), by first | exact Kd.S_nil _ _ _ _ _ | exact Kd.N_nil _ _ _ _ _ | exact Kd.V_nil _ _ _ _ _ | exact Kd.Q_nil _ _ _ _ _ | exact Kd.R_nil _ _ _ _ _, by repeat (first | (with_reducible first | exact HB.out | apply below_alloc | apply pw_below_drewN | apply below_drew1 | refine below_set ?_ GE236.out) | exact HB.out)⟩
            · replace c7 := Bool.eq_false_iff.mpr c7
              subst c7
              have H1 : (sums_Project.l1 k1 l1 x6_1 ([] : List (S23)) l0 (l0.length : Int) x14_1 l1 (l1.length : Int) 0 (rd_L6 l0 x14_1)) = some (r1, r2) := by rw [if_neg (show ¬ (false = true) by decide)] at H; exact H
              clear H
              have H := H1
              clear H1
              have H' := Aside0.mk H
              clear H
              have p235 : 0 ≤ (x14_1 : Int) := of_decide_eq_true (by first | (with_reducible assumption) | assumption)
              have q235 : x14_1 < (l0.length : Int) := of_decide_eq_true (by first | (with_reducible assumption) | assumption)
              obtain ⟨ad235, A235_0, c235_0, e235, hx235_0, hl235_0, hi235_0⟩ := at_L6 HR0.out x14_1 p235 q235
              cases e235
              replace hx235_0 := (HB.out.cell (World.block_lt_of_cell? w _ hx235_0)).trans hx235_0
              have HR235_0 := Aside0.mk hi235_0
              have HC235_0 := Aside0.mk hl235_0
              clear hi235_0 hl235_0
              replace p235 := eq_true p235
              replace q235 := eq_true q235
              go_wp2_with (first | ((with_reducible refine gate_dst (N := 8) rfl ?_); refine box_event ?hg (N := 8) ?hd (cs := #[.slice none 0 0]) (t := 34) ?hr ?_; (case hd => rfl); (case hg => rfl); (case hr => first | (go_simp; done) | (go_simp; rfl)); intro gb236 hg w11 hbox hb; have n0_ := Aside0.mk (Kd.S_below (Kd.S_elderB (by (with_reducible repeat (first | apply Kd.S_alloc | apply Kd.S_drewN | apply Kd.S_drew)); exact HO_6.out) gb236 (Nat.le_of_eq hg.symm)) hb); have n1_ := Aside0.mk (below_step (by repeat (first | (with_reducible first | exact HB.out | apply below_alloc | apply pw_below_drewN | apply below_drew1) | exact HB.out)) hb); have n2_ := Aside0.mk (hbox); have n3_ := Aside0.mk ((by rw [hg]; exact (below_size (by repeat (first | (with_reducible first | exact HB.out | apply below_alloc | apply pw_below_drewN | apply below_drew1) | exact HB.out))) : w.heap.size ≤ gb236)); have n4_ := Aside0.mk ((by rw [hg]; exact (below_size (by repeat (first | (with_reducible first | exact HB.out | apply below_alloc | apply pw_below_drewN | apply below_drew1) | exact HB.out))) : w.heap.size ≤ gb236)); clear HO_6; clear HB; have HO_6 := n0_; have HB := n1_; have BK236 := n2_; have GW236 := n3_; have GE236 := n4_; clear n0_ n1_ n2_ n3_ n4_; clear hb hbox hg; have hcz12_0 : w11.cell? ⟨gb236, 0, none⟩ = some (.slice none 0 0) := (blk_cell BK236.out 0).trans rfl; have hfz12_0 := blk_frozen BK236.out 0) | (go_at_call 43; (with_reducible refine (containsNone.calls A1 c1 l1 gb236 A235_0 c235_0 (rd_L6 l0 x14_1) false _ ?side1 ?side2 ?side3 ?side4 ?side5 A6.out).mono ?_); (case side1 => exact Kd.C_below HR1.out (by repeat (first | (with_reducible first | exact HB.out | apply below_alloc | apply pw_below_drewN | apply below_drew1 | refine below_set ?_ GE236.out) | exact HB.out))); (case side2 => exact HC1.out); (case side3 => exact by (with_reducible repeat (first | refine blk_drewN ?_ _ | refine blk_drew ?_ | refine blk_alloc ?_ _)); refine blk_put (cs := #[.slice none 0 0]) ?_ 0 _ rfl; (with_reducible repeat (first | refine blk_drewN ?_ _ | refine blk_drew ?_ | refine blk_alloc ?_ _)); exact BK236.out); (case side4 => exact Kd.C_below HR235_0.out (by repeat (first | (with_reducible first | exact HB.out | apply below_alloc | apply pw_below_drewN | apply below_drew1 | refine below_set ?_ GE236.out) | exact HB.out))); (case side5 => exact HC235_0.out); rintro e w13 ⟨rfl, hb⟩; have n0_ := Aside0.mk (Kd.S_below (by (with_reducible repeat (first | apply Kd.S_alloc | apply Kd.S_drewN | apply Kd.S_drew)); exact (Kd.S_mono (Kd.S_far (p := ⟨gb236, 0, none⟩) (Kd.S_mono HO_6.out (fun k_ hk => (⟨hk, hk.2⟩ : _ ∧ k_ ≠ gb236))) (fun _ hk => hk.2) (.slice A235_0 (rd_L6 l0 x14_1).length c235_0)) (fun _ h_ => h_.1))) hb); have n1_ := Aside0.mk (blk_below (g := gb236) (o := .cells #[.slice A235_0 (rd_L6 l0 x14_1).length c235_0] 34 (0, 0)) (by (with_reducible repeat (first | refine blk_drewN ?_ _ | refine blk_drew ?_ | refine blk_alloc ?_ _)); refine blk_put (cs := #[.slice none 0 0]) ?_ 0 _ rfl; (with_reducible repeat (first | refine blk_drewN ?_ _ | refine blk_drew ?_ | refine blk_alloc ?_ _)); exact BK236.out) hb); have n2_ := Aside0.mk (below_step (by repeat (first | (with_reducible first | exact HB.out | apply below_alloc | apply pw_below_drewN | apply below_drew1 | refine below_set ?_ GE236.out) | exact HB.out)) hb); clear HO_6; clear BK236; clear HB; have HO_6 := n0_; have BK236 := n1_; have HB := n2_; clear n0_ n1_ n2_; (try clear hb); (try clear hb2); (try clear hk); (try clear hi)))
              go_loopg [9, 23] k1 (fun kq v9 v23 w' => ∃ (x9_2 : List (S23)) (x23_2 : Int), v23 = .int .i64 x23_2 ∧ Aside0 (sums_Project.l1 kq l1 x6_1 x9_2 l0 (l0.length : Int) x14_1 l1 (l1.length : Int) x23_2 (rd_L6 l0 x14_1) = some (r1, r2)) ∧ Aside0 (kq ≤ k1) ∧ Aside0 (Kd.S (Kd.slice 23 k23) 34 w' w.heap.size (fun k_ => some k_ ≠ (v9 : Value).ownBlock ∧ k_ ≠ gb236) u6 x6_1) ∧ Aside0 (Kd.R k23 23 w' w.heap.size (fun _ => True) v9 x9_2) ∧ Aside0 (w'.heap[gb236]? = some (.cells #[(.slice A235_0 (rd_L6 l0 x14_1).length c235_0)] 34 (0, 0))) ∧ Aside0 (Below w.heap.size w w'))
              case atStart => exact ⟨(([] : List (S23))), (0), (by first | rfl | (simp; done) | (simp [*]; done)), H', ⟨Nat.le_refl _⟩, ⟨by (with_reducible repeat (first | apply Kd.S_alloc | apply Kd.S_drewN | apply Kd.S_drew)); exact Kd.S_mono HO_6.out (fun _ hk => ⟨(by simp [Value.ownBlock]), hk.2⟩)⟩, ⟨by first | exact Kd.R_nil _ _ _ _ _ | exact Kd.N_nil _ _ _ _ _ | exact Kd.V_nil _ _ _ _ _ | exact Kd.Q_nil _ _ _ _ _ | exact Kd.S_nil _ _ _ _ _⟩, ⟨by (with_reducible repeat (first | refine blk_drewN ?_ _ | refine blk_drew ?_ | refine blk_alloc ?_ _)); exact BK236.out⟩, ⟨by repeat (first | (with_reducible first | exact HB.out | apply below_alloc | apply pw_below_drewN | apply below_drew1 | refine below_set ?_ GE236.out) | exact HB.out)⟩⟩
              case round =>
                clear H'
                try clear c1
                try clear c2
                try clear p2
                try clear q2
                try clear hx2
                try clear c3
                try clear c3b0
                try clear c4
                try clear c4b0
                try clear c5
                try clear c5b0
                try clear c7
                try clear hcz12_0
                try clear hcz9_0
                try clear hfz12_0
                try clear hfz9_0
                try clear hx235_0
                try clear p2
                try clear p235
                try clear q235
                obtain ⟨x9_2, x23_2, rfl, HA, HK2, HO_6, HO_9, BK236, HB⟩ := hrel
                cases gk with
                | zero => exact absurd HA.out (by simp [sums_Project.l1])
                | succ k2 =>
                  have H := HA.out
                  clear HA
                  simp only [sums_Project.l1] at H
                  by_cases c14 : x23_2 < (l1.length : Int)
                  · rw [if_pos c14] at H
                    have c14b0 : decide (x23_2 < (l1.length : Int)) = true := decide_eq_true c14
                    clear c14
                    by_cases c15 : 0 ≤ x23_2
                    · rw [if_pos c15] at H
                      have c15b0 : decide (0 ≤ x23_2) = true := decide_eq_true c15
                      clear c15
                      by_cases c16 : x23_2 < (l1.length : Int)
                      · rw [if_pos c16] at H
                        have c16b0 : decide (x23_2 < (l1.length : Int)) = true := decide_eq_true c16
                        clear c16
                        by_cases c17 : 0 ≤ (rd l1 x23_2)
                        · rw [if_pos c17] at H
                          have c17b0 : decide (0 ≤ (rd l1 x23_2)) = true := decide_eq_true c17
                          clear c17
                          by_cases c18 : (rd l1 x23_2) < ((rd_L6 l0 x14_1).length : Int)
                          · rw [if_pos c18] at H
                            have c18b0 : decide ((rd l1 x23_2) < ((rd_L6 l0 x14_1).length : Int)) = true := decide_eq_true c18
                            clear c18
                            by_cases c19 : x9_2.length < 4398046511104
                            · rw [if_pos c19] at H
                              have LMc19 := Aside0.mk c19
                              clear c19
                              obtain ⟨y240, hy240⟩ : ∃ y_ : List (S23), y_ = (x9_2 ++ [(⟨(rd_T23 (rd_L6 l0 x14_1) (rd l1 x23_2)).f0, (rd_T23 (rd_L6 l0 x14_1) (rd l1 x23_2)).f1, (rd_T23 (rd_L6 l0 x14_1) (rd l1 x23_2)).f2⟩ : S23)]) := ⟨_, rfl⟩
                              replace H : (sums_Project.l1 k2 l1 x6_1 y240 l0 (l0.length : Int) x14_1 l1 (l1.length : Int) (wrap64 (x23_2 + 1)) (rd_L6 l0 x14_1)) = some (r1, r2) := by first | (rw [hy240]; with_reducible exact H) | (have H2_ := (Option.bind_some _ _).symm.trans H; rw [hy240]; with_reducible exact H2_) | (have H2_ := (Option.bind_some _ _).symm.trans H; with_reducible exact H2_) | with_reducible exact H | (rw [hy240]; exact H) | exact H
                              have Ny240 := Aside0.mk hy240
                              clear hy240
                              have H' := Aside0.mk H
                              clear H
                              have p238 : 0 ≤ (x23_2 : Int) := of_decide_eq_true (by first | (with_reducible assumption) | assumption)
                              have q238 : x23_2 < (l1.length : Int) := of_decide_eq_true (by first | (with_reducible assumption) | assumption)
                              obtain ⟨ad238, e238, hx238_0⟩ := Kd.at_int HR1.out x23_2 p238 q238
                              cases e238
                              replace hx238_0 := (HB.out.cell (World.block_lt_of_cell? w _ hx238_0)).trans hx238_0
                              replace p238 := eq_true p238
                              replace q238 := eq_true q238
                              have hcz20_0 : wr.cell? ⟨gb236, 0, none⟩ = some (.slice A235_0 (rd_L6 l0 x14_1).length c235_0) := (blk_cell BK236.out 0).trans rfl
                              have hfz20_0 := blk_frozen BK236.out 0
                              have p239 : 0 ≤ ((rd l1 x23_2) : Int) := of_decide_eq_true (by first | (with_reducible assumption) | assumption)
                              have q239 : (rd l1 x23_2) < ((rd_L6 l0 x14_1).length : Int) := of_decide_eq_true (by first | (with_reducible assumption) | assumption)
                              obtain ⟨ad239, e239, hx239_0, hx239_1, hx239_2⟩ := at_T23 HR235_0.out (rd l1 x23_2) p239 q239
                              cases e239
                              replace hx239_0 := (HB.out.cell (World.block_lt_of_cell? w _ hx239_0)).trans hx239_0
                              replace hx239_1 := (HB.out.cell (World.block_lt_of_cell? w _ hx239_1)).trans hx239_1
                              replace hx239_2 := (HB.out.cell (World.block_lt_of_cell? w _ hx239_2)).trans hx239_2
                              replace p239 := eq_true p239
                              replace q239 := eq_true q239
                              go_wp2_with (first | ((with_reducible refine gate_builtin (b := .append) (xs := #[.tmp 27, .tmp 32]) rfl ?_); at_builtin; refine Kd.R_append k23 (w0 := w) w.heap.size rfl (.tmp 27) (.tmp 32) 34 23 (.agg #[(.bool false), (.int .i64 0), (.string ⟨#[]⟩)]) 32 rfl Try.underlying34 info23 rfl (by decide) (by omega) u9 x9_2 (⟨(rd_T23 (rd_L6 l0 x14_1) (rd l1 x23_2)).f0, (rd_T23 (rd_L6 l0 x14_1) (rd l1 x23_2)).f1, (rd_T23 (rd_L6 l0 x14_1) (rd l1 x23_2)).f2⟩ : S23) [.bool ((rd_T23 (rd_L6 l0 x14_1) (rd l1 x23_2)).f0), .int .i64 ((rd_T23 (rd_L6 l0 x14_1) (rd l1 x23_2)).f1), .string ((rd_T23 (rd_L6 l0 x14_1) (rd l1 x23_2)).f2)] (fun _ => True) (fun _ => False) rfl rfl ?aP (fun _ hk => hk.elim) ?aF ?aO ?aB ?aS ?aL ?_; (case aP => exact k23_mkM _ _ _ (⟨(rd_T23 (rd_L6 l0 x14_1) (rd l1 x23_2)).f0, (rd_T23 (rd_L6 l0 x14_1) (rd l1 x23_2)).f1, (rd_T23 (rd_L6 l0 x14_1) (rd l1 x23_2)).f2⟩ : S23)); (case aB => exact (by repeat (first | (with_reducible first | exact HB.out | apply below_alloc | apply pw_below_drewN | apply below_drew1 | refine below_set ?_ GE236.out) | exact HB.out))); (case aF => exact (fun _ _ => trivial)); (case aO => exact (by (with_reducible repeat (first | apply Kd.R_alloc | apply Kd.R_drewN | apply Kd.R_drew)); exact HO_9.out)); (case aS => exact (below_size (by repeat (first | (with_reducible first | exact HB.out | apply below_alloc | apply pw_below_drewN | apply below_drew1 | refine below_set ?_ GE236.out) | exact HB.out)))); (case aL => have := LMc19.out; omega); intro v241 w21 ho hb hg hat; rw [← Ny240.out] at ho; have n0_ := Aside0.mk (Kd.S_after (ok := (fun k_ => k_ ≠ gb236)) (by (with_reducible repeat (first | apply Kd.S_alloc | apply Kd.S_drewN | apply Kd.S_drew)); exact Kd.S_mono HO_6.out (fun _ hk => ⟨hk.2, hk.1⟩)) hg hat); have n1_ := Aside0.mk (blk_grown (g := gb236) (o := .cells #[.slice (some ad239) (rd_L6 l0 x14_1).length c235_0] 34 (0, 0)) (by (with_reducible repeat (first | refine blk_drewN ?_ _ | refine blk_drew ?_ | refine blk_alloc ?_ _)); exact BK236.out) hg (Kd.R_ne HO_9.out BK236.out (by decide))); have n2_ := Aside0.mk (hb); have n3_ := Aside0.mk (ho); clear HO_6; clear BK236; clear HB; clear HO_9; have HO_6 := n0_; have BK236 := n1_; have HB := n2_; have HO242 := n3_; clear n0_ n1_ n2_ n3_; clear ho hb hg hat))
                              go_roundg k2
                              case measure => have := HK1.out; have := HK2.out; omega
                              case rel => exact ⟨(y240), (wrap64 (x23_2 + 1)), (by first | rfl | (simp; done) | (simp [*]; done)), H', ⟨by have := HK1.out; have := HK2.out; omega⟩, ⟨by (with_reducible repeat (first | apply Kd.S_alloc | apply Kd.S_drewN | apply Kd.S_drew)); exact Kd.S_mono HO_6.out (fun _ hk => ⟨hk.2, hk.1⟩)⟩, ⟨by (with_reducible repeat (first | apply Kd.R_alloc | apply Kd.R_drewN | apply Kd.R_drew)); exact HO242.out⟩, ⟨by (with_reducible repeat (first | refine blk_drewN ?_ _ | refine blk_drew ?_ | refine blk_alloc ?_ _)); exact BK236.out⟩, ⟨by repeat (first | (with_reducible first | exact HB.out | apply below_alloc | apply pw_below_drewN | apply below_drew1 | refine below_set ?_ GE236.out) | exact HB.out)⟩⟩
                            · rw [if_neg c19] at H
                              exact absurd H (by simp)
                          · rw [if_neg c18] at H
                            exact absurd H (by simp)
                        · rw [if_neg c17] at H
                          exact absurd H (by simp)
                      · rw [if_neg c16] at H
                        exact absurd H (by simp)
                    · rw [if_neg c15] at H
                      exact absurd H (by simp)
                  · rw [if_neg c14] at H
                    have c14b0 : decide (x23_2 < (l1.length : Int)) = false := decide_eq_false c14
                    clear c14
                    by_cases c22 : x6_1.length < 5864062014805
                    · rw [if_pos c22] at H
                      have LMc22 := Aside0.mk c22
                      clear c22
                      obtain ⟨y243, hy243⟩ : ∃ y_ : List (List (S23)), y_ = (x6_1 ++ [x9_2]) := ⟨_, rfl⟩
                      replace H : (sums_Project.l0 k2 l1 y243 l0 (l0.length : Int) (wrap64 (x14_1 + 1))) = some (r1, r2) := by first | (rw [hy243]; with_reducible exact H) | (have H2_ := (Option.bind_some _ _).symm.trans H; rw [hy243]; with_reducible exact H2_) | (have H2_ := (Option.bind_some _ _).symm.trans H; with_reducible exact H2_) | with_reducible exact H | (rw [hy243]; exact H) | exact H
                      have Ny243 := Aside0.mk hy243
                      clear hy243
                      have H' := Aside0.mk H
                      clear H
                      obtain ⟨Ao24, co24, eo24⟩ := Kd.R_slice HO_9.out
                      subst eo24
                      go_wp2_with (first | ((with_reducible refine gate_builtin (b := .append) (xs := #[.tmp 35, .tmp 37]) rfl ?_); at_builtin; refine Kd.S_append (Kd.slice 23 k23) (w0 := w) w.heap.size rfl (.tmp 35) (.tmp 37) 45 34 (.slice none 0 0) 24 rfl Try.underlying45 info34 rfl (by decide) (by omega) u6 x6_1 x9_2 [.slice Ao24 x9_2.length co24] (fun k_ => k_ ≠ gb236) (fun k_ => some k_ = (.slice Ao24 x9_2.length co24 : Value).ownBlock) rfl rfl ?aP (fun k_ hk_ => ((Kd.R_mono (ok' := fun k_ => ((fun k_ => k_ ≠ gb236)) k_ ∧ some k_ ≠ (u6 : Value).ownBlock) (Kd.R_types (Kd.R_apart' (HO_9.out) (Kd.S_typed HO_6.out) (by decide)) BK236.out (by decide)) (fun k_ hk => ⟨hk.2, hk.1.2⟩))).1 k_ hk_.symm) ?aF ?aO ?aB ?aS ?aL ?_; (case aP => exact Kd.M_row (Kd.R_mono (Kd.R_tight rfl (Kd.R_mono (ok' := fun k_ => ((fun k_ => k_ ≠ gb236)) k_ ∧ some k_ ≠ (u6 : Value).ownBlock) (Kd.R_types (Kd.R_apart' (HO_9.out) (Kd.S_typed HO_6.out) (by decide)) BK236.out (by decide)) (fun k_ hk => ⟨hk.2, hk.1.2⟩))) (fun _ h_ => h_))); (case aB => exact (by repeat (first | (with_reducible first | exact HB.out | apply below_alloc | apply pw_below_drewN | apply below_drew1 | refine below_set ?_ GE236.out) | exact HB.out))); (case aF => exact (fun k_ hk => Kd.freshB (g := gb236) (o := .cells #[.slice A235_0 (rd_L6 l0 x14_1).length c235_0] 34 (0, 0)) (by (with_reducible repeat (first | refine blk_drewN ?_ _ | refine blk_drew ?_ | refine blk_alloc ?_ _)); exact BK236.out) k_ hk)); (case aO => exact (by (with_reducible repeat (first | apply Kd.S_alloc | apply Kd.S_drewN | apply Kd.S_drew)); exact Kd.S_mono HO_6.out (fun k_ hk => ⟨hk.2, fun e_ => hk.1 e_⟩))); (case aS => exact (below_size (by repeat (first | (with_reducible first | exact HB.out | apply below_alloc | apply pw_below_drewN | apply below_drew1 | refine below_set ?_ GE236.out) | exact HB.out)))); (case aL => have := LMc22.out; omega); intro v244 w23 ho hb hg hat; rw [← Ny243.out] at ho; have n0_ := Aside0.mk (blk_grown (g := gb236) (o := .cells #[.slice A235_0 (rd_L6 l0 x14_1).length c235_0] 34 (0, 0)) (by (with_reducible repeat (first | refine blk_drewN ?_ _ | refine blk_drew ?_ | refine blk_alloc ?_ _)); exact BK236.out) hg (Kd.S_away HO_6.out (fun _ hk => hk.2))); have n1_ := Aside0.mk (hb); have n2_ := Aside0.mk (ho); clear BK236; clear HB; clear HO_6; clear HO_9; have BK236 := n0_; have HB := n1_; have HO245 := n2_; clear n0_ n1_ n2_; clear ho hb hg hat))
                      go_roundg k2
                      case measure => have := HK1.out; have := HK2.out; omega
                      case rel => exact ⟨(y243), (wrap64 (x14_1 + 1)), (by first | rfl | (simp; done) | (simp [*]; done)), H', ⟨by have := HK1.out; have := HK2.out; omega⟩, ⟨by (with_reducible repeat (first | apply Kd.S_alloc | apply Kd.S_drewN | apply Kd.S_drew)); exact Kd.S_mono HO245.out (fun _ hk => trivial)⟩, ⟨by repeat (first | (with_reducible first | exact HB.out | apply below_alloc | apply pw_below_drewN | apply below_drew1 | refine below_set ?_ GE236.out) | exact HB.out)⟩⟩
                    · rw [if_neg c22] at H
                      exact absurd H (by simp)
          · rw [if_neg c5] at H
            exact absurd H (by simp)
        · rw [if_neg c4] at H
          exact absurd H (by simp)
      · rw [if_neg c3] at H
        have c3b0 : decide (x14_1 < (l0.length : Int)) = false := decide_eq_false c3
        clear c3
        simp only [Option.some.injEq, Prod.mk.injEq] at H
        obtain ⟨rfl, rfl⟩ := H
        go_wp2
        go_ret2
        exact ⟨_, by first | rfl | (simp [errW_none, errW_some] <;> rfl) | (simp [*, errW_none, errW_some] <;> rfl), by (with_reducible repeat (first | apply Kd.S_alloc | apply Kd.S_drewN | apply Kd.S_drew)); exact HO_6.out, by repeat (first | (with_reducible first | exact HB.out | apply below_alloc | apply pw_below_drewN | apply below_drew1) | exact HB.out)⟩
/-! ### sums_Project_c: function 29 -/
def projV (rows : List (List S23)) (cols : List Int) : List (List S23) := rows.map (fun r => cols.map (fun c => rd_T23 r c))
def badP (rows : List (List S23)) (cols : List Int) : Bool := rows.any (fun r => cols.any (noneB r))
theorem rdI_at (l : List Int) (n : Nat) (h : n < l.length) : rd l (n : Int) = l[n] := by
  simp [rd, List.getD_eq_getElem?_getD, List.getElem?_eq_getElem h]
theorem rdRow2_at (l : List (List S23)) (n : Nat) (h : n < l.length) : rd_L6 l (n : Int) = l[n] := by
  simp [rd_L6, List.getD_eq_getElem?_getD, List.getElem?_eq_getElem h]
theorem none_in {r : List S23} {c : Int} (h : noneB r c = false) : 0 ≤ c ∧ c < (r.length : Int) := by
  simp only [noneB, Bool.or_eq_false_iff, decide_eq_false_iff_not] at h
  omega
theorem sums_Project.inner (cols : List Int) (hc : cols.length ≤ 4398046511104) (out : List (List S23)) (ho : out.length < 5864062014805) (rows : List (List S23)) (N M : Int) (r : List S23) (hr : cols.any (noneB r) = false) :
    ∀ (e k j : Nat) (acc : List S23), j + e = cols.length → acc.length = j →
    sums_Project.l1 (k + e + 1) cols out acc rows N M cols (cols.length : Int) (j : Int) r = sums_Project.l0 k cols (out ++ [acc ++ (cols.drop j).map (fun c => rd_T23 r c)]) rows N (wrap64 (M + 1)) := by
  intro e
  induction e with
  | zero =>
    intro k j acc hj ha
    simp only [sums_Project.l1]
    rw [if_neg (by omega), if_pos ho, List.drop_eq_nil_of_le (by omega)]
    simp
  | succ e ih =>
    intro k j acc hj ha
    have hlt : j < cols.length := by omega
    have hw : wrap64 ((j : Int) + 1) = ((j + 1 : Nat) : Int) := by unfold wrap64; omega
    rw [show k + (e + 1) + 1 = (k + e + 1) + 1 by omega]
    rw [sums_Project.l1]
    have hn : noneB r cols[j] = false := by
      rw [List.any_eq_false] at hr
      have := hr cols[j] (List.getElem_mem hlt)
      simpa using this
    obtain ⟨h0, h1⟩ := none_in hn
    rw [if_pos (by omega), if_pos (by omega), if_pos (by omega), rdI_at cols j hlt, if_pos h0, if_pos h1, if_pos (by omega), hw, ih k (j + 1) _ (by omega) (by simp [ha]), List.drop_eq_getElem_cons hlt, List.map_cons, List.append_assoc]
    rfl
theorem sums_Project.outer (cols : List Int) (hc : cols.length ≤ 4398046511104) (rows : List (List S23)) (hr : rows.length ≤ 5864062014805) :
    ∀ (d k n : Nat) (out : List (List S23)), n + d = rows.length → out.length = n → d * (cols.length + 2) < k →
    sums_Project.l0 k cols out rows (rows.length : Int) (n : Int) = some (if badP (rows.drop n) cols then ([], 7) else (out ++ projV (rows.drop n) cols, 0)) := by
  intro d
  induction d with
  | zero =>
    intro k n out hn ho hk
    obtain ⟨k, rfl⟩ : ∃ m, k = m + 1 := ⟨k - 1, by omega⟩
    simp only [sums_Project.l0]
    rw [if_neg (by omega), List.drop_eq_nil_of_le (by omega)]
    simp [badP, projV]
  | succ d ih =>
    intro k n out hn ho hk
    have hk' : d * (cols.length + 2) + (cols.length + 2) < k := by rw [Nat.succ_mul] at hk; exact hk
    obtain ⟨k, rfl⟩ : ∃ m, k = m + cols.length + 2 := ⟨k - (cols.length + 2), by omega⟩
    have hlt : n < rows.length := by omega
    have hw : wrap64 ((n : Int) + 1) = ((n + 1 : Nat) : Int) := by unfold wrap64; omega
    rw [show k + cols.length + 2 = (k + cols.length + 1) + 1 by omega, sums_Project.l0]
    rw [if_pos (by omega), if_pos (by omega), if_pos (by omega), rdRow2_at rows n hlt]
    simp only [containsNone.f, Option.bind_some]
    rw [List.drop_eq_getElem_cons hlt]
    cases hb : cols.any (noneB rows[n]) with
    | true =>
      rw [if_pos rfl, show badP (rows[n] :: List.drop (n + 1) rows) cols = true from by simp only [badP, List.any_cons, hb, Bool.true_or], if_pos rfl]
    | false =>
      rw [if_neg (by decide)]
      have hi := sums_Project.inner cols hc out (by omega) rows (rows.length : Int) (n : Int) rows[n] hb cols.length k 0 [] (by omega) rfl
      rw [show ((0 : Nat) : Int) = 0 from rfl] at hi
      rw [hi, hw, ih k (n + 1) _ (by omega) (by simp [ho]) (by omega), show badP (rows[n] :: List.drop (n + 1) rows) cols = badP (List.drop (n + 1) rows) cols from by simp only [badP, List.any_cons, hb, Bool.false_or]]
      split
      · rfl
      · rw [List.append_assoc, List.drop_zero]; rfl
theorem sums_Project.is (rows : List (List S23)) (cols : List Int) (hc : cols.length ≤ 4398046511104) (hr : rows.length ≤ 5864062014805) :
    sums_Project.f (rows.length * (cols.length + 2) + 1) rows cols = some (if badP rows cols then ([], 7) else (projV rows cols, 0)) := by
  have := sums_Project.outer cols hc rows hr rows.length (rows.length * (cols.length + 2) + 1) 0 [] (by omega) rfl (by omega)
  rw [show ((0 : Nat) : Int) = 0 from rfl, List.drop_zero] at this
  unfold sums_Project.f
  rw [this]
  simp
def sums_Project_c.f (rows : List (List S23)) (cols : List Int) : Option ((List (List (S23))) × Int) := if cols.length ≤ 4398046511104 then (if rows.length ≤ 5864062014805 then some (if badP rows cols then ([], 7) else (projV rows cols, 0)) else none) else none
theorem sums_Project_c.calls (A0 : Option Addr) (c0 : Nat) (l0 : List (List (S23))) (A1 : Option Addr) (c1 : Nat) (l1 : List Int) (r1 : List (List (S23))) (r2 : Int) (w : World) (hr0 : Kd.C (Kd.slice 23 k23) w A0 l0.length l0) (hc0 : l0.length ≤ c0) (hr1 : Kd.C (Kd.int .i64) w A1 l1.length l1) (hc1 : l1.length ≤ c1) (h : sums_Project_c.f l0 l1 = some (r1, r2)) :
    Calls Try.prog 29 #[.slice A0 l0.length c0, .slice A1 l1.length c1] w fun e w' => ∃ v0_ : Value, e = .returned (.tuple #[v0_, .int .i64 r2]) ∧ Kd.S (Kd.slice 23 k23) 34 w' w.heap.size (fun _ => True) v0_ r1 ∧ Below w.heap.size w w' := by
  unfold sums_Project_c.f at h
  split at h
  · rename_i g0
    split at h
    · rename_i g1
      exact sums_Project.calls _ A0 c0 l0 A1 c1 l1 r1 r2 w hr0 hc0 hr1 hc1 ((sums_Project.is l0 l1 g0 g1).trans h)
    · cases h
  · cases h


end Go.Proofs.Ytknkncidlfobiaa.Pr
