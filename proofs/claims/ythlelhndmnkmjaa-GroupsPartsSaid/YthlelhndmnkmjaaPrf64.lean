-- printed by xprint.py (this seat's own program, over the kit's print.py); not trusted: Lean checks it
import Derived.Test.YthlelhndmnkmjaaPr0
import Derived.Test.YthlelhndmnkmjaaPrf56
namespace Go.Proofs.Ythlelhndmnkmjaa.Pr
open Go.RowKit Go.Proofs.YthlelhndmnkmjaaW.PrintWords Go.Proofs.YthlelhndmnkmjaaW.PrintLast Go.Proofs.YthlelhndmnkmjaaW.PrintMore
attribute [local go_sem] max2_int min2_int max_two min_two max_three min_three max_four min_four   -- for this text's walks alone
set_option linter.unusedVariables false
set_option linter.unusedSimpArgs false

/-! ### groups_sorted: function 64 -/
def groups_sorted.l0 : Nat → List (S49) → Int → Option (Bool)
 | 0, _, _ => none
 | k + 1, x0, x3 => if x3 < (x0.length : Int) then (if 0 ≤ (wrap64 (x3 - 1)) then (if (wrap64 (x3 - 1)) < (x0.length : Int) then (if 0 ≤ x3 then ((groups_byKey.f ((rd_T49 x0 (wrap64 (x3 - 1))).f0.f0) ((rd_T49 x0 (wrap64 (x3 - 1))).f0.f1) ((rd_T49 x0 (wrap64 (x3 - 1))).f0.f2) ((rd_T49 x0 (wrap64 (x3 - 1))).f1.f0) ((rd_T49 x0 (wrap64 (x3 - 1))).f1.f1) ((rd_T49 x0 (wrap64 (x3 - 1))).f1.f2) ((rd_T49 x0 (wrap64 (x3 - 1))).f1.f3.f0) ((rd_T49 x0 (wrap64 (x3 - 1))).f1.f3.f1) ((rd_T49 x0 (wrap64 (x3 - 1))).f1.f3.f2) ((rd_T49 x0 (wrap64 (x3 - 1))).f1.f4.f0) ((rd_T49 x0 (wrap64 (x3 - 1))).f1.f4.f1) ((rd_T49 x0 (wrap64 (x3 - 1))).f1.f4.f2) ((rd_T49 x0 x3).f0.f0) ((rd_T49 x0 x3).f0.f1) ((rd_T49 x0 x3).f0.f2) ((rd_T49 x0 x3).f1.f0) ((rd_T49 x0 x3).f1.f1) ((rd_T49 x0 x3).f1.f2) ((rd_T49 x0 x3).f1.f3.f0) ((rd_T49 x0 x3).f1.f3.f1) ((rd_T49 x0 x3).f1.f3.f2) ((rd_T49 x0 x3).f1.f4.f0) ((rd_T49 x0 x3).f1.f4.f1) ((rd_T49 x0 x3).f1.f4.f2)).bind fun t393 => (if t393 ≥ 0 then (some false) else (groups_sorted.l0 k x0 (wrap64 (x3 + 1))))) else (none)) else (none)) else (none)) else (some true)
def groups_sorted.f (k : Nat) (l0 : List (S49)) : Option (Bool) := groups_sorted.l0 k l0 1
theorem groups_sorted.mono_l : ∀ k, (∀ y0 y1, LeO (groups_sorted.l0 k y0 y1) (groups_sorted.l0 (k + 1) y0 y1))
 | 0 => fun _ _ r h => by simp [groups_sorted.l0] at h
 | k + 1 => by
  have ih0 := groups_sorted.mono_l k
  ·intro y0 y1
   unfold groups_sorted.l0
   repeat' first
   | (with_reducible exact ih0 _ _)
   | (with_reducible exact LeO.refl _)
   | (with_reducible exact LeO.none _)
   | (with_reducible refine LeO.ite ?_ ?_)
   | (with_reducible refine LeO.bind ?_ (fun _ => ?_))
   | exact ih0 _ _
   | exact LeO.none _
   | refine LeO.ite ?_ ?_
   | refine LeO.bind ?_ (fun _ => ?_)
theorem groups_sorted.mono : ∀ a0 k, LeO (groups_sorted.f k a0) (groups_sorted.f (k + 1) a0) := by
 intro a0 k
 have ih0 := groups_sorted.mono_l k
 unfold groups_sorted.f
 repeat' first
   | (with_reducible exact ih0 _ _)
   | (with_reducible exact LeO.refl _)
   | (with_reducible exact LeO.none _)
   | (with_reducible refine LeO.ite ?_ ?_)
   | (with_reducible refine LeO.bind ?_ (fun _ => ?_))
   | exact ih0 _ _
   | exact LeO.none _
   | refine LeO.ite ?_ ?_
   | refine LeO.bind ?_ (fun _ => ?_)
def groups_sorted.T4 : Bool × List (List Nat × List Nat) := (true, [([], []), ([], []), ([1], [1]), ([0, 2], [0, 2]), ([3], [3]), ([], []), ([], []), ([5, 6], [5, 6]), ([7], [7]), ([4, 8], [4, 8]), ([9], [9])])
def groups_sorted.B4 : List Nat := [0, 0, 2, 7, 15, 0, 0, 96, 224, 511, 1023]
theorem groups_sorted.tab4 : rtab .any (opsOf Try.f64 4) = groups_sorted.T4 := by kernel_rfl
theorem groups_sorted.bits4 : waitsOk groups_sorted.T4.2 groups_sorted.B4 = true := by kernel_rfl
set_option maxHeartbeats 8000000 in
set_option maxRecDepth 100000 in
theorem groups_sorted.calls (k : Nat) (A0 : Option Addr) (c0 : Nat) (l0 : List (S49)) (r : Bool) (w : World) (hr0 : Kd.C k49 w A0 l0.length l0) (hc0 : l0.length ≤ c0) (h : groups_sorted.f k l0 = some r) :
  Calls Try.prog 64 #[.slice A0 l0.length c0] w fun e w' => e = .returned (.bool r) ∧ Below w.heap.size w w' := by
 have hu49 := Try.underlying49
 have HR0 := Aside0.mk hr0
 have HC0 := Aside0.mk hc0
 clear hr0 hc0
 have HB := Aside0.mk (Below.refl w.heap.size w)
 have H : (groups_sorted.l0 k l0 1) = some r := h
 clear h
 have H' := Aside0.mk H
 clear H
 go_enter Try.func64, Try.ntmps64
 go_wp2
 go_loopg [3] k (fun kq v3 w' => ∃ (x3_1 : Int), v3 = .int .i64 x3_1 ∧ Aside0 (groups_sorted.l0 kq l0 x3_1 = some r) ∧ Aside0 (kq ≤ k) ∧ Aside0 (Below w.heap.size w w'))
 case atStart => exact ⟨(1), (by first | rfl | (simp; done) | (simp [*]; done)), H', ⟨Nat.le_refl _⟩, ⟨by repeat (first | (with_reducible first | exact HB.out | apply below_alloc | apply pw_below_drewN | apply below_drew1) | exact HB.out)⟩⟩
 case round =>
  clear H'
  obtain ⟨x3_1, rfl, HA, HK1, HB⟩ := hrel
  cases gk with
  | zero => exact absurd HA.out (by simp [groups_sorted.l0])
  | succ k1 =>
   have H := HA.out
   clear HA
   simp only [groups_sorted.l0] at H
   by_cases c2 : x3_1 < (l0.length : Int)
   ·rw [if_pos c2] at H
    have c2b0 : decide (x3_1 < (l0.length : Int)) = true := decide_eq_true c2
    clear c2
    obtain ⟨ji3, hji3⟩ : ∃ j_ : Int, (wrap64 (x3_1 - 1)) = j_ := ⟨_, rfl⟩
    replace H : (if 0 ≤ (ji3) then (if (ji3) < (l0.length : Int) then (if 0 ≤ x3_1 then ((groups_byKey.f ((rd_T49 l0 (ji3)).f0.f0) ((rd_T49 l0 (ji3)).f0.f1) ((rd_T49 l0 (ji3)).f0.f2) ((rd_T49 l0 (ji3)).f1.f0) ((rd_T49 l0 (ji3)).f1.f1) ((rd_T49 l0 (ji3)).f1.f2) ((rd_T49 l0 (ji3)).f1.f3.f0) ((rd_T49 l0 (ji3)).f1.f3.f1) ((rd_T49 l0 (ji3)).f1.f3.f2) ((rd_T49 l0 (ji3)).f1.f4.f0) ((rd_T49 l0 (ji3)).f1.f4.f1) ((rd_T49 l0 (ji3)).f1.f4.f2) ((rd_T49 l0 x3_1).f0.f0) ((rd_T49 l0 x3_1).f0.f1) ((rd_T49 l0 x3_1).f0.f2) ((rd_T49 l0 x3_1).f1.f0) ((rd_T49 l0 x3_1).f1.f1) ((rd_T49 l0 x3_1).f1.f2) ((rd_T49 l0 x3_1).f1.f3.f0) ((rd_T49 l0 x3_1).f1.f3.f1) ((rd_T49 l0 x3_1).f1.f3.f2) ((rd_T49 l0 x3_1).f1.f4.f0) ((rd_T49 l0 x3_1).f1.f4.f1) ((rd_T49 l0 x3_1).f1.f4.f2)).bind fun t393 => (if t393 ≥ 0 then (some false) else (groups_sorted.l0 k1 l0 (wrap64 (x3_1 + 1))))) else (none)) else (none)) else (none)) = some r := by first | (rw [hji3] at H; exact H) | (simp only [hji3] at H ⊢; exact H)
    have hji3w : (IntKind.i64.wrap (x3_1 - 1)) = ji3 := (i64_w _).trans hji3
    by_cases c4 : 0 ≤ (ji3)
    ·rw [if_pos c4] at H
     have c4b0 : decide (0 ≤ (ji3)) = true := decide_eq_true c4
     clear c4
     by_cases c5 : (ji3) < (l0.length : Int)
     ·rw [if_pos c5] at H
      have c5b0 : decide ((ji3) < (l0.length : Int)) = true := decide_eq_true c5
      clear c5
      by_cases c6 : 0 ≤ x3_1
      ·rw [if_pos c6] at H
       have c6b0 : decide (0 ≤ x3_1) = true := decide_eq_true c6
       clear c6
       replace H := Option.bind_eq_some_iff.mp H
       obtain ⟨t393, A70, H⟩ := H
       replace H : (if t393 ≥ 0 then (some false) else (groups_sorted.l0 k1 l0 (wrap64 (x3_1 + 1)))) = some r := H
       have A7 := Aside0.mk A70
       clear A70
       by_cases c8 : t393 ≥ 0
       ·rw [if_pos c8] at H
        have c8b0 : decide (0 ≤ t393) = true := decide_eq_true c8
        clear c8
        obtain rfl := Option.some.inj H
        try go_wp2
        have n0_ := Aside0.mk (below_drew1 HB.out)
        clear HB
        have HB := n0_
        clear n0_
        have p391 : 0 ≤ ((ji3) : Int) := of_decide_eq_true (by first | (with_reducible assumption) | assumption)
        have q391 : (ji3) < (l0.length : Int) := of_decide_eq_true (by first | (with_reducible assumption) | assumption)
        obtain ⟨ad391, e391, hx391_0, hx391_1, hx391_2, hx391_3, hx391_4, hx391_5, hx391_6, hx391_7, hx391_8, hx391_9, hx391_10, hx391_11⟩ := at_T49 HR0.out (ji3) p391 q391
        have hw391_11 := hx391_11
        have hw391_10 := hx391_10
        have hw391_9 := hx391_9
        have hw391_8 := hx391_8
        have hw391_7 := hx391_7
        have hw391_6 := hx391_6
        have hw391_5 := hx391_5
        have hw391_4 := hx391_4
        have hw391_3 := hx391_3
        have hw391_2 := hx391_2
        have hw391_1 := hx391_1
        have hw391_0 := hx391_0
        cases e391
        replace hx391_0 := (HB.out.cell (World.block_lt_of_cell? w _ hx391_0)).trans hx391_0
        replace hx391_1 := (HB.out.cell (World.block_lt_of_cell? w _ hx391_1)).trans hx391_1
        replace hx391_2 := (HB.out.cell (World.block_lt_of_cell? w _ hx391_2)).trans hx391_2
        replace hx391_3 := (HB.out.cell (World.block_lt_of_cell? w _ hx391_3)).trans hx391_3
        replace hx391_4 := (HB.out.cell (World.block_lt_of_cell? w _ hx391_4)).trans hx391_4
        replace hx391_5 := (HB.out.cell (World.block_lt_of_cell? w _ hx391_5)).trans hx391_5
        replace hx391_6 := (HB.out.cell (World.block_lt_of_cell? w _ hx391_6)).trans hx391_6
        replace hx391_7 := (HB.out.cell (World.block_lt_of_cell? w _ hx391_7)).trans hx391_7
        replace hx391_8 := (HB.out.cell (World.block_lt_of_cell? w _ hx391_8)).trans hx391_8
        replace hx391_9 := (HB.out.cell (World.block_lt_of_cell? w _ hx391_9)).trans hx391_9
        replace hx391_10 := (HB.out.cell (World.block_lt_of_cell? w _ hx391_10)).trans hx391_10
        replace hx391_11 := (HB.out.cell (World.block_lt_of_cell? w _ hx391_11)).trans hx391_11
        replace p391 := eq_true p391
        replace q391 := eq_true q391
        have p392 : 0 ≤ (x3_1 : Int) := of_decide_eq_true (by first | (with_reducible assumption) | assumption)
        have q392 : x3_1 < (l0.length : Int) := of_decide_eq_true (by first | (with_reducible assumption) | assumption)
        obtain ⟨ad392, e392, hx392_0, hx392_1, hx392_2, hx392_3, hx392_4, hx392_5, hx392_6, hx392_7, hx392_8, hx392_9, hx392_10, hx392_11⟩ := at_T49 HR0.out x3_1 p392 q392
        have hw392_11 := hx392_11
        have hw392_10 := hx392_10
        have hw392_9 := hx392_9
        have hw392_8 := hx392_8
        have hw392_7 := hx392_7
        have hw392_6 := hx392_6
        have hw392_5 := hx392_5
        have hw392_4 := hx392_4
        have hw392_3 := hx392_3
        have hw392_2 := hx392_2
        have hw392_1 := hx392_1
        have hw392_0 := hx392_0
        obtain rfl : ad391 = ad392 := (by injection e392)
        replace hx392_0 := (HB.out.cell (World.block_lt_of_cell? w _ hx392_0)).trans hx392_0
        replace hx392_1 := (HB.out.cell (World.block_lt_of_cell? w _ hx392_1)).trans hx392_1
        replace hx392_2 := (HB.out.cell (World.block_lt_of_cell? w _ hx392_2)).trans hx392_2
        replace hx392_3 := (HB.out.cell (World.block_lt_of_cell? w _ hx392_3)).trans hx392_3
        replace hx392_4 := (HB.out.cell (World.block_lt_of_cell? w _ hx392_4)).trans hx392_4
        replace hx392_5 := (HB.out.cell (World.block_lt_of_cell? w _ hx392_5)).trans hx392_5
        replace hx392_6 := (HB.out.cell (World.block_lt_of_cell? w _ hx392_6)).trans hx392_6
        replace hx392_7 := (HB.out.cell (World.block_lt_of_cell? w _ hx392_7)).trans hx392_7
        replace hx392_8 := (HB.out.cell (World.block_lt_of_cell? w _ hx392_8)).trans hx392_8
        replace hx392_9 := (HB.out.cell (World.block_lt_of_cell? w _ hx392_9)).trans hx392_9
        replace hx392_10 := (HB.out.cell (World.block_lt_of_cell? w _ hx392_10)).trans hx392_10
        replace hx392_11 := (HB.out.cell (World.block_lt_of_cell? w _ hx392_11)).trans hx392_11
        replace p392 := eq_true p392
        replace q392 := eq_true q392
        refine start_ (n := 11) (S := fun w' => w'.cell? (ad391.add (((ji3)).toNat * 12)) = some (.bool ((rd_T49 l0 (ji3)).f0.f0)) ∧ w'.cell? ⟨(ad391.add (((ji3)).toNat * 12)).block, (ad391.add (((ji3)).toNat * 12)).off + 1, none⟩ = some (.int .i64 ((rd_T49 l0 (ji3)).f0.f1)) ∧ w'.cell? ⟨(ad391.add (((ji3)).toNat * 12)).block, (ad391.add (((ji3)).toNat * 12)).off + 2, none⟩ = some (.string ((rd_T49 l0 (ji3)).f0.f2)) ∧ w'.cell? ⟨(ad391.add (((ji3)).toNat * 12)).block, (ad391.add (((ji3)).toNat * 12)).off + 3, none⟩ = some (.int .i64 ((rd_T49 l0 (ji3)).f1.f0)) ∧ w'.cell? ⟨(ad391.add (((ji3)).toNat * 12)).block, (ad391.add (((ji3)).toNat * 12)).off + 4, none⟩ = some (.int .i64 ((rd_T49 l0 (ji3)).f1.f1)) ∧ w'.cell? ⟨(ad391.add (((ji3)).toNat * 12)).block, (ad391.add (((ji3)).toNat * 12)).off + 5, none⟩ = some (.int .i64 ((rd_T49 l0 (ji3)).f1.f2)) ∧ w'.cell? ⟨(ad391.add (((ji3)).toNat * 12)).block, (ad391.add (((ji3)).toNat * 12)).off + 6, none⟩ = some (.bool ((rd_T49 l0 (ji3)).f1.f3.f0)) ∧ w'.cell? ⟨(ad391.add (((ji3)).toNat * 12)).block, (ad391.add (((ji3)).toNat * 12)).off + 7, none⟩ = some (.int .i64 ((rd_T49 l0 (ji3)).f1.f3.f1)) ∧ w'.cell? ⟨(ad391.add (((ji3)).toNat * 12)).block, (ad391.add (((ji3)).toNat * 12)).off + 8, none⟩ = some (.string ((rd_T49 l0 (ji3)).f1.f3.f2)) ∧ w'.cell? ⟨(ad391.add (((ji3)).toNat * 12)).block, (ad391.add (((ji3)).toNat * 12)).off + 9, none⟩ = some (.bool ((rd_T49 l0 (ji3)).f1.f4.f0)) ∧ w'.cell? ⟨(ad391.add (((ji3)).toNat * 12)).block, (ad391.add (((ji3)).toNat * 12)).off + 10, none⟩ = some (.int .i64 ((rd_T49 l0 (ji3)).f1.f4.f1)) ∧ w'.cell? ⟨(ad391.add (((ji3)).toNat * 12)).block, (ad391.add (((ji3)).toNat * 12)).off + 11, none⟩ = some (.string ((rd_T49 l0 (ji3)).f1.f4.f2)) ∧ w'.cell? (ad391.add ((x3_1).toNat * 12)) = some (.bool ((rd_T49 l0 x3_1).f0.f0)) ∧ w'.cell? ⟨(ad391.add ((x3_1).toNat * 12)).block, (ad391.add ((x3_1).toNat * 12)).off + 1, none⟩ = some (.int .i64 ((rd_T49 l0 x3_1).f0.f1)) ∧ w'.cell? ⟨(ad391.add ((x3_1).toNat * 12)).block, (ad391.add ((x3_1).toNat * 12)).off + 2, none⟩ = some (.string ((rd_T49 l0 x3_1).f0.f2)) ∧ w'.cell? ⟨(ad391.add ((x3_1).toNat * 12)).block, (ad391.add ((x3_1).toNat * 12)).off + 3, none⟩ = some (.int .i64 ((rd_T49 l0 x3_1).f1.f0)) ∧ w'.cell? ⟨(ad391.add ((x3_1).toNat * 12)).block, (ad391.add ((x3_1).toNat * 12)).off + 4, none⟩ = some (.int .i64 ((rd_T49 l0 x3_1).f1.f1)) ∧ w'.cell? ⟨(ad391.add ((x3_1).toNat * 12)).block, (ad391.add ((x3_1).toNat * 12)).off + 5, none⟩ = some (.int .i64 ((rd_T49 l0 x3_1).f1.f2)) ∧ w'.cell? ⟨(ad391.add ((x3_1).toNat * 12)).block, (ad391.add ((x3_1).toNat * 12)).off + 6, none⟩ = some (.bool ((rd_T49 l0 x3_1).f1.f3.f0)) ∧ w'.cell? ⟨(ad391.add ((x3_1).toNat * 12)).block, (ad391.add ((x3_1).toNat * 12)).off + 7, none⟩ = some (.int .i64 ((rd_T49 l0 x3_1).f1.f3.f1)) ∧ w'.cell? ⟨(ad391.add ((x3_1).toNat * 12)).block, (ad391.add ((x3_1).toNat * 12)).off + 8, none⟩ = some (.string ((rd_T49 l0 x3_1).f1.f3.f2)) ∧ w'.cell? ⟨(ad391.add ((x3_1).toNat * 12)).block, (ad391.add ((x3_1).toNat * 12)).off + 9, none⟩ = some (.bool ((rd_T49 l0 x3_1).f1.f4.f0)) ∧ w'.cell? ⟨(ad391.add ((x3_1).toNat * 12)).block, (ad391.add ((x3_1).toNat * 12)).off + 10, none⟩ = some (.int .i64 ((rd_T49 l0 x3_1).f1.f4.f1)) ∧ w'.cell? ⟨(ad391.add ((x3_1).toNat * 12)).block, (ad391.add ((x3_1).toNat * 12)).off + 11, none⟩ = some (.string ((rd_T49 l0 x3_1).f1.f4.f2))) (ds := []) #[false, false, false, false, false, false, false, false, false, false, false] (by kernel_rfl) rfl rfl ⟨((HB.out.cell (World.block_lt_of_cell? w _ hw391_0)).trans hw391_0), ((HB.out.cell (World.block_lt_of_cell? w _ hw391_1)).trans hw391_1), ((HB.out.cell (World.block_lt_of_cell? w _ hw391_2)).trans hw391_2), ((HB.out.cell (World.block_lt_of_cell? w _ hw391_3)).trans hw391_3), ((HB.out.cell (World.block_lt_of_cell? w _ hw391_4)).trans hw391_4), ((HB.out.cell (World.block_lt_of_cell? w _ hw391_5)).trans hw391_5), ((HB.out.cell (World.block_lt_of_cell? w _ hw391_6)).trans hw391_6), ((HB.out.cell (World.block_lt_of_cell? w _ hw391_7)).trans hw391_7), ((HB.out.cell (World.block_lt_of_cell? w _ hw391_8)).trans hw391_8), ((HB.out.cell (World.block_lt_of_cell? w _ hw391_9)).trans hw391_9), ((HB.out.cell (World.block_lt_of_cell? w _ hw391_10)).trans hw391_10), ((HB.out.cell (World.block_lt_of_cell? w _ hw391_11)).trans hw391_11), ((HB.out.cell (World.block_lt_of_cell? w _ hw392_0)).trans hw392_0), ((HB.out.cell (World.block_lt_of_cell? w _ hw392_1)).trans hw392_1), ((HB.out.cell (World.block_lt_of_cell? w _ hw392_2)).trans hw392_2), ((HB.out.cell (World.block_lt_of_cell? w _ hw392_3)).trans hw392_3), ((HB.out.cell (World.block_lt_of_cell? w _ hw392_4)).trans hw392_4), ((HB.out.cell (World.block_lt_of_cell? w _ hw392_5)).trans hw392_5), ((HB.out.cell (World.block_lt_of_cell? w _ hw392_6)).trans hw392_6), ((HB.out.cell (World.block_lt_of_cell? w _ hw392_7)).trans hw392_7), ((HB.out.cell (World.block_lt_of_cell? w _ hw392_8)).trans hw392_8), ((HB.out.cell (World.block_lt_of_cell? w _ hw392_9)).trans hw392_9), ((HB.out.cell (World.block_lt_of_cell? w _ hw392_10)).trans hw392_10), ((HB.out.cell (World.block_lt_of_cell? w _ hw392_11)).trans hw392_11)⟩ (fun hHeld => ?_); refine with_tabW groups_sorted.tab4 groups_sorted.bits4 (fun HT_ HW_ => ?_)
        generalize wr.drew = w9 at HB hx391_0 hx391_1 hx391_10 hx391_11 hx391_2 hx391_3 hx391_4 hx391_5 hx391_6 hx391_7 hx391_8 hx391_9 hx392_0 hx392_1 hx392_10 hx392_11 hx392_2 hx392_3 hx392_4 hx392_5 hx392_6 hx392_7 hx392_8 hx392_9 hHeld ⊢
        refine pure_ (i := 0) (N := some 10) (v := ?_) (a' := ?_) #[true, false, false, false, false, false, false, false, false, false, false] rfl rfl (any_of HT_.out (by kernel_rfl)) (fun _ _ _ h => h) (Or.inl ⟨by rfl, ?_⟩) ?_ ?_
        rotate_left
        ·intro w'
         go_simp
         with_reducible rfl
        rotate_left
        ·simp only [Act.put, List.setIfInBounds_toArray, List.set_cons_zero, List.set_cons_succ, i64_w, i32_w]
         rfl
        refine pure_ (i := 1) (N := some 11) (v := ?_) (a' := ?_) #[true, true, false, false, false, false, false, false, false, false, false] rfl rfl (any_of HT_.out (by kernel_rfl)) (fun _ _ _ h => h) (Or.inl ⟨by rfl, ?_⟩) ?_ ?_
        rotate_left
        ·intro w'
         go_simp
         with_reducible rfl
        rotate_left
        ·simp only [Act.put, List.setIfInBounds_toArray, List.set_cons_zero, List.set_cons_succ, i64_w, i32_w]
         rfl
        refine pure_ (i := 2) (N := some 12) (v := ?_) (a' := ?_) #[true, true, true, false, false, false, false, false, false, false, false] rfl rfl (any_of HT_.out (by kernel_rfl)) (fun _ _ _ h => h) (Or.inl ⟨by rfl, ?_⟩) ?_ ?_
        rotate_left
        ·intro w'
         go_simp
         with_reducible rfl
        rotate_left
        ·simp only [Act.put, List.setIfInBounds_toArray, List.set_cons_zero, List.set_cons_succ, i64_w, i32_w]
         rfl
        refine pure_ (i := 3) (N := some 13) (v := ?_) (a' := ?_) #[true, true, true, true, false, false, false, false, false, false, false] rfl rfl (any_of HT_.out (by kernel_rfl)) (fun _ _ _ h => h) (Or.inl ⟨by rfl, ?_⟩) ?_ ?_
        rotate_left
        ·intro w'
         go_simp
         with_reducible rfl
        rotate_left
        ·simp only [Act.put, List.setIfInBounds_toArray, List.set_cons_zero, List.set_cons_succ, i64_w, i32_w]
         rfl
        refine pure_ (i := 5) (N := some 15) (v := ?_) (a' := ?_) #[true, true, true, true, false, true, false, false, false, false, false] rfl rfl (any_of HT_.out (by kernel_rfl)) (fun _ _ _ h => h) (Or.inl ⟨by rfl, ?_⟩) ?_ ?_
        rotate_left
        ·intro w'
         go_simp
         with_reducible rfl
        rotate_left
        ·simp only [Act.put, List.setIfInBounds_toArray, List.set_cons_zero, List.set_cons_succ, i64_w, i32_w]
         rfl
        refine pure_ (i := 6) (N := some 16) (v := ?_) (a' := ?_) #[true, true, true, true, false, true, true, false, false, false, false] rfl rfl (any_of HT_.out (by kernel_rfl)) (fun _ _ _ h => h) (Or.inl ⟨by rfl, ?_⟩) ?_ ?_
        rotate_left
        ·intro w'
         go_simp
         with_reducible rfl
        rotate_left
        ·simp only [Act.put, List.setIfInBounds_toArray, List.set_cons_zero, List.set_cons_succ, i64_w, i32_w]
         rfl
        refine pure_ (i := 7) (N := some 17) (v := ?_) (a' := ?_) #[true, true, true, true, false, true, true, true, false, false, false] rfl rfl (any_of HT_.out (by kernel_rfl)) (fun _ _ _ h => h) (Or.inl ⟨by rfl, ?_⟩) ?_ ?_
        rotate_left
        ·intro w'
         go_simp
         with_reducible rfl
        rotate_left
        ·simp only [Act.put, List.setIfInBounds_toArray, List.set_cons_zero, List.set_cons_succ, i64_w, i32_w]
         rfl
        refine take_ (i := 4) (N := some 14) (v := ?_) (a' := ?_) #[true, true, true, true, true, true, true, true, false, false, false] rfl rfl (take_ofW HT_.out HW_.out (by kernel_rfl)) (fun _ _ _ h => h) (Or.inl ⟨by rfl, ?_⟩) hHeld ?_ ?_
        rotate_left
        ·rintro w' ⟨s0, s1, s2, s3, s4, s5, s6, s7, s8, s9, s10, s11, s12, s13, s14, s15, s16, s17, s18, s19, s20, s21, s22, s23⟩
         go_simp
         with_reducible rfl
        rotate_left
        ·simp only [Act.put, List.setIfInBounds_toArray, List.set_cons_zero, List.set_cons_succ, i64_w, i32_w]
         rfl
        refine take_ (i := 8) (N := some 18) (v := ?_) (a' := ?_) #[true, true, true, true, true, true, true, true, true, false, false] rfl rfl (take_ofW HT_.out HW_.out (by kernel_rfl)) (fun _ _ _ h => h) (Or.inl ⟨by rfl, ?_⟩) hHeld ?_ ?_
        rotate_left
        ·rintro w' ⟨s0, s1, s2, s3, s4, s5, s6, s7, s8, s9, s10, s11, s12, s13, s14, s15, s16, s17, s18, s19, s20, s21, s22, s23⟩
         go_simp
         with_reducible rfl
        rotate_left
        ·simp only [Act.put, List.setIfInBounds_toArray, List.set_cons_zero, List.set_cons_succ, i64_w, i32_w]
         rfl
        refine one_ (i := 9) (N := some 19) #[true, true, true, true, true, true, true, true, true, true, false] rfl rfl (one_of HT_.out (by kernel_rfl)) (by decide) (fun K hK => ?_)
        refine goes_ Try.func56 (by kernel_rfl) rfl #[.agg #[.bool ((rd_T49 l0 (ji3)).f0.f0), .int .i64 ((rd_T49 l0 (ji3)).f0.f1), .string ((rd_T49 l0 (ji3)).f0.f2), .int .i64 ((rd_T49 l0 (ji3)).f1.f0), .int .i64 ((rd_T49 l0 (ji3)).f1.f1), .int .i64 ((rd_T49 l0 (ji3)).f1.f2), .bool ((rd_T49 l0 (ji3)).f1.f3.f0), .int .i64 ((rd_T49 l0 (ji3)).f1.f3.f1), .string ((rd_T49 l0 (ji3)).f1.f3.f2), .bool ((rd_T49 l0 (ji3)).f1.f4.f0), .int .i64 ((rd_T49 l0 (ji3)).f1.f4.f1), .string ((rd_T49 l0 (ji3)).f1.f4.f2)], .agg #[.bool ((rd_T49 l0 x3_1).f0.f0), .int .i64 ((rd_T49 l0 x3_1).f0.f1), .string ((rd_T49 l0 x3_1).f0.f2), .int .i64 ((rd_T49 l0 x3_1).f1.f0), .int .i64 ((rd_T49 l0 x3_1).f1.f1), .int .i64 ((rd_T49 l0 x3_1).f1.f2), .bool ((rd_T49 l0 x3_1).f1.f3.f0), .int .i64 ((rd_T49 l0 x3_1).f1.f3.f1), .string ((rd_T49 l0 x3_1).f1.f3.f2), .bool ((rd_T49 l0 x3_1).f1.f4.f0), .int .i64 ((rd_T49 l0 x3_1).f1.f4.f1), .string ((rd_T49 l0 x3_1).f1.f4.f2)]] (by rfl) rfl rfl (by (try simp only [List.map_toArray, List.map_cons, List.map_nil]); first | done | (simp only [hji3]; rfl) | rfl | (simp only [List.length_drop, List.length_take]; rfl)) ?_
        with_reducible refine (groups_byKey.calls ((rd_T49 l0 (ji3)).f0.f0) ((rd_T49 l0 (ji3)).f0.f1) ((rd_T49 l0 (ji3)).f0.f2) ((rd_T49 l0 (ji3)).f1.f0) ((rd_T49 l0 (ji3)).f1.f1) ((rd_T49 l0 (ji3)).f1.f2) ((rd_T49 l0 (ji3)).f1.f3.f0) ((rd_T49 l0 (ji3)).f1.f3.f1) ((rd_T49 l0 (ji3)).f1.f3.f2) ((rd_T49 l0 (ji3)).f1.f4.f0) ((rd_T49 l0 (ji3)).f1.f4.f1) ((rd_T49 l0 (ji3)).f1.f4.f2) ((rd_T49 l0 x3_1).f0.f0) ((rd_T49 l0 x3_1).f0.f1) ((rd_T49 l0 x3_1).f0.f2) ((rd_T49 l0 x3_1).f1.f0) ((rd_T49 l0 x3_1).f1.f1) ((rd_T49 l0 x3_1).f1.f2) ((rd_T49 l0 x3_1).f1.f3.f0) ((rd_T49 l0 x3_1).f1.f3.f1) ((rd_T49 l0 x3_1).f1.f3.f2) ((rd_T49 l0 x3_1).f1.f4.f0) ((rd_T49 l0 x3_1).f1.f4.f1) ((rd_T49 l0 x3_1).f1.f4.f2) t393 _ A7.out).mono ?_
        rintro e w10 ⟨rfl, hb⟩
        refine ⟨_, rfl, ?_⟩
        have n0_ := Aside0.mk (below_step (by repeat (first | (with_reducible first | exact HB.out | apply below_alloc | apply pw_below_drewN | apply below_drew1) | exact HB.out)) hb)
        clear HB
        have HB := n0_
        clear n0_
        (try clear hb)
        (try clear hb2)
        (try clear hk)
        (try clear hi)
        refine hK.out _ _ ⟨((HB.out.cell (World.block_lt_of_cell? w _ hw391_0)).trans hw391_0), ((HB.out.cell (World.block_lt_of_cell? w _ hw391_1)).trans hw391_1), ((HB.out.cell (World.block_lt_of_cell? w _ hw391_2)).trans hw391_2), ((HB.out.cell (World.block_lt_of_cell? w _ hw391_3)).trans hw391_3), ((HB.out.cell (World.block_lt_of_cell? w _ hw391_4)).trans hw391_4), ((HB.out.cell (World.block_lt_of_cell? w _ hw391_5)).trans hw391_5), ((HB.out.cell (World.block_lt_of_cell? w _ hw391_6)).trans hw391_6), ((HB.out.cell (World.block_lt_of_cell? w _ hw391_7)).trans hw391_7), ((HB.out.cell (World.block_lt_of_cell? w _ hw391_8)).trans hw391_8), ((HB.out.cell (World.block_lt_of_cell? w _ hw391_9)).trans hw391_9), ((HB.out.cell (World.block_lt_of_cell? w _ hw391_10)).trans hw391_10), ((HB.out.cell (World.block_lt_of_cell? w _ hw391_11)).trans hw391_11), ((HB.out.cell (World.block_lt_of_cell? w _ hw392_0)).trans hw392_0), ((HB.out.cell (World.block_lt_of_cell? w _ hw392_1)).trans hw392_1), ((HB.out.cell (World.block_lt_of_cell? w _ hw392_2)).trans hw392_2), ((HB.out.cell (World.block_lt_of_cell? w _ hw392_3)).trans hw392_3), ((HB.out.cell (World.block_lt_of_cell? w _ hw392_4)).trans hw392_4), ((HB.out.cell (World.block_lt_of_cell? w _ hw392_5)).trans hw392_5), ((HB.out.cell (World.block_lt_of_cell? w _ hw392_6)).trans hw392_6), ((HB.out.cell (World.block_lt_of_cell? w _ hw392_7)).trans hw392_7), ((HB.out.cell (World.block_lt_of_cell? w _ hw392_8)).trans hw392_8), ((HB.out.cell (World.block_lt_of_cell? w _ hw392_9)).trans hw392_9), ((HB.out.cell (World.block_lt_of_cell? w _ hw392_10)).trans hw392_10), ((HB.out.cell (World.block_lt_of_cell? w _ hw392_11)).trans hw392_11)⟩ (fun hHeld => ?_)
        clear hK K
        refine norm_ (a' := ?_) ?_ ?_
        rotate_left
        ·show Act.put _ (some 19) _ = _
         simp only [Act.put, List.setIfInBounds_toArray, List.set_cons_zero, List.set_cons_succ, i64_w, i32_w]
         rfl
        refine pure_ (i := 10) (N := some 20) (v := ?_) (a' := ?_) #[true, true, true, true, true, true, true, true, true, true, true] rfl rfl (any_of HT_.out (by kernel_rfl)) (fun _ _ _ h => h) (Or.inl ⟨by rfl, ?_⟩) ?_ ?_
        rotate_left
        ·intro w'
         go_simp
         with_reducible rfl
        rotate_left
        ·simp only [Act.put, List.setIfInBounds_toArray, List.set_cons_zero, List.set_cons_succ, i64_w, i32_w]
         rfl
        refine done_ (done_of HT_.out (by kernel_rfl)) ?_
        try go_wp2
        go_ret
        exact ⟨by first | rfl | (simp [errW_none, errW_some] <;> rfl) | (simp only [← hji3]; first | rfl | (simp [errW_none, errW_some] <;> rfl)) | (simp [*, errW_none, errW_some] <;> rfl), by repeat (first | (with_reducible first | exact HB.out | apply below_alloc | apply pw_below_drewN | apply below_drew1) | exact HB.out)⟩
       ·rw [if_neg c8] at H
        have c8b0 : decide (0 ≤ t393) = false := decide_eq_false c8
        clear c8
        have H' := Aside0.mk H
        clear H
        try go_wp2
        have n0_ := Aside0.mk (below_drew1 HB.out)
        clear HB
        have HB := n0_
        clear n0_
        have p391 : 0 ≤ ((ji3) : Int) := of_decide_eq_true (by first | (with_reducible assumption) | assumption)
        have q391 : (ji3) < (l0.length : Int) := of_decide_eq_true (by first | (with_reducible assumption) | assumption)
        obtain ⟨ad391, e391, hx391_0, hx391_1, hx391_2, hx391_3, hx391_4, hx391_5, hx391_6, hx391_7, hx391_8, hx391_9, hx391_10, hx391_11⟩ := at_T49 HR0.out (ji3) p391 q391
        have hw391_11 := hx391_11
        have hw391_10 := hx391_10
        have hw391_9 := hx391_9
        have hw391_8 := hx391_8
        have hw391_7 := hx391_7
        have hw391_6 := hx391_6
        have hw391_5 := hx391_5
        have hw391_4 := hx391_4
        have hw391_3 := hx391_3
        have hw391_2 := hx391_2
        have hw391_1 := hx391_1
        have hw391_0 := hx391_0
        cases e391
        replace hx391_0 := (HB.out.cell (World.block_lt_of_cell? w _ hx391_0)).trans hx391_0
        replace hx391_1 := (HB.out.cell (World.block_lt_of_cell? w _ hx391_1)).trans hx391_1
        replace hx391_2 := (HB.out.cell (World.block_lt_of_cell? w _ hx391_2)).trans hx391_2
        replace hx391_3 := (HB.out.cell (World.block_lt_of_cell? w _ hx391_3)).trans hx391_3
        replace hx391_4 := (HB.out.cell (World.block_lt_of_cell? w _ hx391_4)).trans hx391_4
        replace hx391_5 := (HB.out.cell (World.block_lt_of_cell? w _ hx391_5)).trans hx391_5
        replace hx391_6 := (HB.out.cell (World.block_lt_of_cell? w _ hx391_6)).trans hx391_6
        replace hx391_7 := (HB.out.cell (World.block_lt_of_cell? w _ hx391_7)).trans hx391_7
        replace hx391_8 := (HB.out.cell (World.block_lt_of_cell? w _ hx391_8)).trans hx391_8
        replace hx391_9 := (HB.out.cell (World.block_lt_of_cell? w _ hx391_9)).trans hx391_9
        replace hx391_10 := (HB.out.cell (World.block_lt_of_cell? w _ hx391_10)).trans hx391_10
        replace hx391_11 := (HB.out.cell (World.block_lt_of_cell? w _ hx391_11)).trans hx391_11
        replace p391 := eq_true p391
        replace q391 := eq_true q391
        have p392 : 0 ≤ (x3_1 : Int) := of_decide_eq_true (by first | (with_reducible assumption) | assumption)
        have q392 : x3_1 < (l0.length : Int) := of_decide_eq_true (by first | (with_reducible assumption) | assumption)
        obtain ⟨ad392, e392, hx392_0, hx392_1, hx392_2, hx392_3, hx392_4, hx392_5, hx392_6, hx392_7, hx392_8, hx392_9, hx392_10, hx392_11⟩ := at_T49 HR0.out x3_1 p392 q392
        have hw392_11 := hx392_11
        have hw392_10 := hx392_10
        have hw392_9 := hx392_9
        have hw392_8 := hx392_8
        have hw392_7 := hx392_7
        have hw392_6 := hx392_6
        have hw392_5 := hx392_5
        have hw392_4 := hx392_4
        have hw392_3 := hx392_3
        have hw392_2 := hx392_2
        have hw392_1 := hx392_1
        have hw392_0 := hx392_0
        obtain rfl : ad391 = ad392 := (by injection e392)
        replace hx392_0 := (HB.out.cell (World.block_lt_of_cell? w _ hx392_0)).trans hx392_0
        replace hx392_1 := (HB.out.cell (World.block_lt_of_cell? w _ hx392_1)).trans hx392_1
        replace hx392_2 := (HB.out.cell (World.block_lt_of_cell? w _ hx392_2)).trans hx392_2
        replace hx392_3 := (HB.out.cell (World.block_lt_of_cell? w _ hx392_3)).trans hx392_3
        replace hx392_4 := (HB.out.cell (World.block_lt_of_cell? w _ hx392_4)).trans hx392_4
        replace hx392_5 := (HB.out.cell (World.block_lt_of_cell? w _ hx392_5)).trans hx392_5
        replace hx392_6 := (HB.out.cell (World.block_lt_of_cell? w _ hx392_6)).trans hx392_6
        replace hx392_7 := (HB.out.cell (World.block_lt_of_cell? w _ hx392_7)).trans hx392_7
        replace hx392_8 := (HB.out.cell (World.block_lt_of_cell? w _ hx392_8)).trans hx392_8
        replace hx392_9 := (HB.out.cell (World.block_lt_of_cell? w _ hx392_9)).trans hx392_9
        replace hx392_10 := (HB.out.cell (World.block_lt_of_cell? w _ hx392_10)).trans hx392_10
        replace hx392_11 := (HB.out.cell (World.block_lt_of_cell? w _ hx392_11)).trans hx392_11
        replace p392 := eq_true p392
        replace q392 := eq_true q392
        refine start_ (n := 11) (S := fun w' => w'.cell? (ad391.add (((ji3)).toNat * 12)) = some (.bool ((rd_T49 l0 (ji3)).f0.f0)) ∧ w'.cell? ⟨(ad391.add (((ji3)).toNat * 12)).block, (ad391.add (((ji3)).toNat * 12)).off + 1, none⟩ = some (.int .i64 ((rd_T49 l0 (ji3)).f0.f1)) ∧ w'.cell? ⟨(ad391.add (((ji3)).toNat * 12)).block, (ad391.add (((ji3)).toNat * 12)).off + 2, none⟩ = some (.string ((rd_T49 l0 (ji3)).f0.f2)) ∧ w'.cell? ⟨(ad391.add (((ji3)).toNat * 12)).block, (ad391.add (((ji3)).toNat * 12)).off + 3, none⟩ = some (.int .i64 ((rd_T49 l0 (ji3)).f1.f0)) ∧ w'.cell? ⟨(ad391.add (((ji3)).toNat * 12)).block, (ad391.add (((ji3)).toNat * 12)).off + 4, none⟩ = some (.int .i64 ((rd_T49 l0 (ji3)).f1.f1)) ∧ w'.cell? ⟨(ad391.add (((ji3)).toNat * 12)).block, (ad391.add (((ji3)).toNat * 12)).off + 5, none⟩ = some (.int .i64 ((rd_T49 l0 (ji3)).f1.f2)) ∧ w'.cell? ⟨(ad391.add (((ji3)).toNat * 12)).block, (ad391.add (((ji3)).toNat * 12)).off + 6, none⟩ = some (.bool ((rd_T49 l0 (ji3)).f1.f3.f0)) ∧ w'.cell? ⟨(ad391.add (((ji3)).toNat * 12)).block, (ad391.add (((ji3)).toNat * 12)).off + 7, none⟩ = some (.int .i64 ((rd_T49 l0 (ji3)).f1.f3.f1)) ∧ w'.cell? ⟨(ad391.add (((ji3)).toNat * 12)).block, (ad391.add (((ji3)).toNat * 12)).off + 8, none⟩ = some (.string ((rd_T49 l0 (ji3)).f1.f3.f2)) ∧ w'.cell? ⟨(ad391.add (((ji3)).toNat * 12)).block, (ad391.add (((ji3)).toNat * 12)).off + 9, none⟩ = some (.bool ((rd_T49 l0 (ji3)).f1.f4.f0)) ∧ w'.cell? ⟨(ad391.add (((ji3)).toNat * 12)).block, (ad391.add (((ji3)).toNat * 12)).off + 10, none⟩ = some (.int .i64 ((rd_T49 l0 (ji3)).f1.f4.f1)) ∧ w'.cell? ⟨(ad391.add (((ji3)).toNat * 12)).block, (ad391.add (((ji3)).toNat * 12)).off + 11, none⟩ = some (.string ((rd_T49 l0 (ji3)).f1.f4.f2)) ∧ w'.cell? (ad391.add ((x3_1).toNat * 12)) = some (.bool ((rd_T49 l0 x3_1).f0.f0)) ∧ w'.cell? ⟨(ad391.add ((x3_1).toNat * 12)).block, (ad391.add ((x3_1).toNat * 12)).off + 1, none⟩ = some (.int .i64 ((rd_T49 l0 x3_1).f0.f1)) ∧ w'.cell? ⟨(ad391.add ((x3_1).toNat * 12)).block, (ad391.add ((x3_1).toNat * 12)).off + 2, none⟩ = some (.string ((rd_T49 l0 x3_1).f0.f2)) ∧ w'.cell? ⟨(ad391.add ((x3_1).toNat * 12)).block, (ad391.add ((x3_1).toNat * 12)).off + 3, none⟩ = some (.int .i64 ((rd_T49 l0 x3_1).f1.f0)) ∧ w'.cell? ⟨(ad391.add ((x3_1).toNat * 12)).block, (ad391.add ((x3_1).toNat * 12)).off + 4, none⟩ = some (.int .i64 ((rd_T49 l0 x3_1).f1.f1)) ∧ w'.cell? ⟨(ad391.add ((x3_1).toNat * 12)).block, (ad391.add ((x3_1).toNat * 12)).off + 5, none⟩ = some (.int .i64 ((rd_T49 l0 x3_1).f1.f2)) ∧ w'.cell? ⟨(ad391.add ((x3_1).toNat * 12)).block, (ad391.add ((x3_1).toNat * 12)).off + 6, none⟩ = some (.bool ((rd_T49 l0 x3_1).f1.f3.f0)) ∧ w'.cell? ⟨(ad391.add ((x3_1).toNat * 12)).block, (ad391.add ((x3_1).toNat * 12)).off + 7, none⟩ = some (.int .i64 ((rd_T49 l0 x3_1).f1.f3.f1)) ∧ w'.cell? ⟨(ad391.add ((x3_1).toNat * 12)).block, (ad391.add ((x3_1).toNat * 12)).off + 8, none⟩ = some (.string ((rd_T49 l0 x3_1).f1.f3.f2)) ∧ w'.cell? ⟨(ad391.add ((x3_1).toNat * 12)).block, (ad391.add ((x3_1).toNat * 12)).off + 9, none⟩ = some (.bool ((rd_T49 l0 x3_1).f1.f4.f0)) ∧ w'.cell? ⟨(ad391.add ((x3_1).toNat * 12)).block, (ad391.add ((x3_1).toNat * 12)).off + 10, none⟩ = some (.int .i64 ((rd_T49 l0 x3_1).f1.f4.f1)) ∧ w'.cell? ⟨(ad391.add ((x3_1).toNat * 12)).block, (ad391.add ((x3_1).toNat * 12)).off + 11, none⟩ = some (.string ((rd_T49 l0 x3_1).f1.f4.f2))) (ds := []) #[false, false, false, false, false, false, false, false, false, false, false] (by kernel_rfl) rfl rfl ⟨((HB.out.cell (World.block_lt_of_cell? w _ hw391_0)).trans hw391_0), ((HB.out.cell (World.block_lt_of_cell? w _ hw391_1)).trans hw391_1), ((HB.out.cell (World.block_lt_of_cell? w _ hw391_2)).trans hw391_2), ((HB.out.cell (World.block_lt_of_cell? w _ hw391_3)).trans hw391_3), ((HB.out.cell (World.block_lt_of_cell? w _ hw391_4)).trans hw391_4), ((HB.out.cell (World.block_lt_of_cell? w _ hw391_5)).trans hw391_5), ((HB.out.cell (World.block_lt_of_cell? w _ hw391_6)).trans hw391_6), ((HB.out.cell (World.block_lt_of_cell? w _ hw391_7)).trans hw391_7), ((HB.out.cell (World.block_lt_of_cell? w _ hw391_8)).trans hw391_8), ((HB.out.cell (World.block_lt_of_cell? w _ hw391_9)).trans hw391_9), ((HB.out.cell (World.block_lt_of_cell? w _ hw391_10)).trans hw391_10), ((HB.out.cell (World.block_lt_of_cell? w _ hw391_11)).trans hw391_11), ((HB.out.cell (World.block_lt_of_cell? w _ hw392_0)).trans hw392_0), ((HB.out.cell (World.block_lt_of_cell? w _ hw392_1)).trans hw392_1), ((HB.out.cell (World.block_lt_of_cell? w _ hw392_2)).trans hw392_2), ((HB.out.cell (World.block_lt_of_cell? w _ hw392_3)).trans hw392_3), ((HB.out.cell (World.block_lt_of_cell? w _ hw392_4)).trans hw392_4), ((HB.out.cell (World.block_lt_of_cell? w _ hw392_5)).trans hw392_5), ((HB.out.cell (World.block_lt_of_cell? w _ hw392_6)).trans hw392_6), ((HB.out.cell (World.block_lt_of_cell? w _ hw392_7)).trans hw392_7), ((HB.out.cell (World.block_lt_of_cell? w _ hw392_8)).trans hw392_8), ((HB.out.cell (World.block_lt_of_cell? w _ hw392_9)).trans hw392_9), ((HB.out.cell (World.block_lt_of_cell? w _ hw392_10)).trans hw392_10), ((HB.out.cell (World.block_lt_of_cell? w _ hw392_11)).trans hw392_11)⟩ (fun hHeld => ?_); refine with_tabW groups_sorted.tab4 groups_sorted.bits4 (fun HT_ HW_ => ?_)
        generalize wr.drew = w11 at HB hx391_0 hx391_1 hx391_10 hx391_11 hx391_2 hx391_3 hx391_4 hx391_5 hx391_6 hx391_7 hx391_8 hx391_9 hx392_0 hx392_1 hx392_10 hx392_11 hx392_2 hx392_3 hx392_4 hx392_5 hx392_6 hx392_7 hx392_8 hx392_9 hHeld ⊢
        refine pure_ (i := 0) (N := some 10) (v := ?_) (a' := ?_) #[true, false, false, false, false, false, false, false, false, false, false] rfl rfl (any_of HT_.out (by kernel_rfl)) (fun _ _ _ h => h) (Or.inl ⟨by rfl, ?_⟩) ?_ ?_
        rotate_left
        ·intro w'
         go_simp
         with_reducible rfl
        rotate_left
        ·simp only [Act.put, List.setIfInBounds_toArray, List.set_cons_zero, List.set_cons_succ, i64_w, i32_w]
         rfl
        refine pure_ (i := 1) (N := some 11) (v := ?_) (a' := ?_) #[true, true, false, false, false, false, false, false, false, false, false] rfl rfl (any_of HT_.out (by kernel_rfl)) (fun _ _ _ h => h) (Or.inl ⟨by rfl, ?_⟩) ?_ ?_
        rotate_left
        ·intro w'
         go_simp
         with_reducible rfl
        rotate_left
        ·simp only [Act.put, List.setIfInBounds_toArray, List.set_cons_zero, List.set_cons_succ, i64_w, i32_w]
         rfl
        refine pure_ (i := 2) (N := some 12) (v := ?_) (a' := ?_) #[true, true, true, false, false, false, false, false, false, false, false] rfl rfl (any_of HT_.out (by kernel_rfl)) (fun _ _ _ h => h) (Or.inl ⟨by rfl, ?_⟩) ?_ ?_
        rotate_left
        ·intro w'
         go_simp
         with_reducible rfl
        rotate_left
        ·simp only [Act.put, List.setIfInBounds_toArray, List.set_cons_zero, List.set_cons_succ, i64_w, i32_w]
         rfl
        refine pure_ (i := 3) (N := some 13) (v := ?_) (a' := ?_) #[true, true, true, true, false, false, false, false, false, false, false] rfl rfl (any_of HT_.out (by kernel_rfl)) (fun _ _ _ h => h) (Or.inl ⟨by rfl, ?_⟩) ?_ ?_
        rotate_left
        ·intro w'
         go_simp
         with_reducible rfl
        rotate_left
        ·simp only [Act.put, List.setIfInBounds_toArray, List.set_cons_zero, List.set_cons_succ, i64_w, i32_w]
         rfl
        refine pure_ (i := 5) (N := some 15) (v := ?_) (a' := ?_) #[true, true, true, true, false, true, false, false, false, false, false] rfl rfl (any_of HT_.out (by kernel_rfl)) (fun _ _ _ h => h) (Or.inl ⟨by rfl, ?_⟩) ?_ ?_
        rotate_left
        ·intro w'
         go_simp
         with_reducible rfl
        rotate_left
        ·simp only [Act.put, List.setIfInBounds_toArray, List.set_cons_zero, List.set_cons_succ, i64_w, i32_w]
         rfl
        refine pure_ (i := 6) (N := some 16) (v := ?_) (a' := ?_) #[true, true, true, true, false, true, true, false, false, false, false] rfl rfl (any_of HT_.out (by kernel_rfl)) (fun _ _ _ h => h) (Or.inl ⟨by rfl, ?_⟩) ?_ ?_
        rotate_left
        ·intro w'
         go_simp
         with_reducible rfl
        rotate_left
        ·simp only [Act.put, List.setIfInBounds_toArray, List.set_cons_zero, List.set_cons_succ, i64_w, i32_w]
         rfl
        refine pure_ (i := 7) (N := some 17) (v := ?_) (a' := ?_) #[true, true, true, true, false, true, true, true, false, false, false] rfl rfl (any_of HT_.out (by kernel_rfl)) (fun _ _ _ h => h) (Or.inl ⟨by rfl, ?_⟩) ?_ ?_
        rotate_left
        ·intro w'
         go_simp
         with_reducible rfl
        rotate_left
        ·simp only [Act.put, List.setIfInBounds_toArray, List.set_cons_zero, List.set_cons_succ, i64_w, i32_w]
         rfl
        refine take_ (i := 4) (N := some 14) (v := ?_) (a' := ?_) #[true, true, true, true, true, true, true, true, false, false, false] rfl rfl (take_ofW HT_.out HW_.out (by kernel_rfl)) (fun _ _ _ h => h) (Or.inl ⟨by rfl, ?_⟩) hHeld ?_ ?_
        rotate_left
        ·rintro w' ⟨s0, s1, s2, s3, s4, s5, s6, s7, s8, s9, s10, s11, s12, s13, s14, s15, s16, s17, s18, s19, s20, s21, s22, s23⟩
         go_simp
         with_reducible rfl
        rotate_left
        ·simp only [Act.put, List.setIfInBounds_toArray, List.set_cons_zero, List.set_cons_succ, i64_w, i32_w]
         rfl
        refine take_ (i := 8) (N := some 18) (v := ?_) (a' := ?_) #[true, true, true, true, true, true, true, true, true, false, false] rfl rfl (take_ofW HT_.out HW_.out (by kernel_rfl)) (fun _ _ _ h => h) (Or.inl ⟨by rfl, ?_⟩) hHeld ?_ ?_
        rotate_left
        ·rintro w' ⟨s0, s1, s2, s3, s4, s5, s6, s7, s8, s9, s10, s11, s12, s13, s14, s15, s16, s17, s18, s19, s20, s21, s22, s23⟩
         go_simp
         with_reducible rfl
        rotate_left
        ·simp only [Act.put, List.setIfInBounds_toArray, List.set_cons_zero, List.set_cons_succ, i64_w, i32_w]
         rfl
        refine one_ (i := 9) (N := some 19) #[true, true, true, true, true, true, true, true, true, true, false] rfl rfl (one_of HT_.out (by kernel_rfl)) (by decide) (fun K hK => ?_)
        refine goes_ Try.func56 (by kernel_rfl) rfl #[.agg #[.bool ((rd_T49 l0 (ji3)).f0.f0), .int .i64 ((rd_T49 l0 (ji3)).f0.f1), .string ((rd_T49 l0 (ji3)).f0.f2), .int .i64 ((rd_T49 l0 (ji3)).f1.f0), .int .i64 ((rd_T49 l0 (ji3)).f1.f1), .int .i64 ((rd_T49 l0 (ji3)).f1.f2), .bool ((rd_T49 l0 (ji3)).f1.f3.f0), .int .i64 ((rd_T49 l0 (ji3)).f1.f3.f1), .string ((rd_T49 l0 (ji3)).f1.f3.f2), .bool ((rd_T49 l0 (ji3)).f1.f4.f0), .int .i64 ((rd_T49 l0 (ji3)).f1.f4.f1), .string ((rd_T49 l0 (ji3)).f1.f4.f2)], .agg #[.bool ((rd_T49 l0 x3_1).f0.f0), .int .i64 ((rd_T49 l0 x3_1).f0.f1), .string ((rd_T49 l0 x3_1).f0.f2), .int .i64 ((rd_T49 l0 x3_1).f1.f0), .int .i64 ((rd_T49 l0 x3_1).f1.f1), .int .i64 ((rd_T49 l0 x3_1).f1.f2), .bool ((rd_T49 l0 x3_1).f1.f3.f0), .int .i64 ((rd_T49 l0 x3_1).f1.f3.f1), .string ((rd_T49 l0 x3_1).f1.f3.f2), .bool ((rd_T49 l0 x3_1).f1.f4.f0), .int .i64 ((rd_T49 l0 x3_1).f1.f4.f1), .string ((rd_T49 l0 x3_1).f1.f4.f2)]] (by rfl) rfl rfl (by (try simp only [List.map_toArray, List.map_cons, List.map_nil]); first | done | (simp only [hji3]; rfl) | rfl | (simp only [List.length_drop, List.length_take]; rfl)) ?_
        with_reducible refine (groups_byKey.calls ((rd_T49 l0 (ji3)).f0.f0) ((rd_T49 l0 (ji3)).f0.f1) ((rd_T49 l0 (ji3)).f0.f2) ((rd_T49 l0 (ji3)).f1.f0) ((rd_T49 l0 (ji3)).f1.f1) ((rd_T49 l0 (ji3)).f1.f2) ((rd_T49 l0 (ji3)).f1.f3.f0) ((rd_T49 l0 (ji3)).f1.f3.f1) ((rd_T49 l0 (ji3)).f1.f3.f2) ((rd_T49 l0 (ji3)).f1.f4.f0) ((rd_T49 l0 (ji3)).f1.f4.f1) ((rd_T49 l0 (ji3)).f1.f4.f2) ((rd_T49 l0 x3_1).f0.f0) ((rd_T49 l0 x3_1).f0.f1) ((rd_T49 l0 x3_1).f0.f2) ((rd_T49 l0 x3_1).f1.f0) ((rd_T49 l0 x3_1).f1.f1) ((rd_T49 l0 x3_1).f1.f2) ((rd_T49 l0 x3_1).f1.f3.f0) ((rd_T49 l0 x3_1).f1.f3.f1) ((rd_T49 l0 x3_1).f1.f3.f2) ((rd_T49 l0 x3_1).f1.f4.f0) ((rd_T49 l0 x3_1).f1.f4.f1) ((rd_T49 l0 x3_1).f1.f4.f2) t393 _ A7.out).mono ?_
        rintro e w12 ⟨rfl, hb⟩
        refine ⟨_, rfl, ?_⟩
        have n0_ := Aside0.mk (below_step (by repeat (first | (with_reducible first | exact HB.out | apply below_alloc | apply pw_below_drewN | apply below_drew1) | exact HB.out)) hb)
        clear HB
        have HB := n0_
        clear n0_
        (try clear hb)
        (try clear hb2)
        (try clear hk)
        (try clear hi)
        refine hK.out _ _ ⟨((HB.out.cell (World.block_lt_of_cell? w _ hw391_0)).trans hw391_0), ((HB.out.cell (World.block_lt_of_cell? w _ hw391_1)).trans hw391_1), ((HB.out.cell (World.block_lt_of_cell? w _ hw391_2)).trans hw391_2), ((HB.out.cell (World.block_lt_of_cell? w _ hw391_3)).trans hw391_3), ((HB.out.cell (World.block_lt_of_cell? w _ hw391_4)).trans hw391_4), ((HB.out.cell (World.block_lt_of_cell? w _ hw391_5)).trans hw391_5), ((HB.out.cell (World.block_lt_of_cell? w _ hw391_6)).trans hw391_6), ((HB.out.cell (World.block_lt_of_cell? w _ hw391_7)).trans hw391_7), ((HB.out.cell (World.block_lt_of_cell? w _ hw391_8)).trans hw391_8), ((HB.out.cell (World.block_lt_of_cell? w _ hw391_9)).trans hw391_9), ((HB.out.cell (World.block_lt_of_cell? w _ hw391_10)).trans hw391_10), ((HB.out.cell (World.block_lt_of_cell? w _ hw391_11)).trans hw391_11), ((HB.out.cell (World.block_lt_of_cell? w _ hw392_0)).trans hw392_0), ((HB.out.cell (World.block_lt_of_cell? w _ hw392_1)).trans hw392_1), ((HB.out.cell (World.block_lt_of_cell? w _ hw392_2)).trans hw392_2), ((HB.out.cell (World.block_lt_of_cell? w _ hw392_3)).trans hw392_3), ((HB.out.cell (World.block_lt_of_cell? w _ hw392_4)).trans hw392_4), ((HB.out.cell (World.block_lt_of_cell? w _ hw392_5)).trans hw392_5), ((HB.out.cell (World.block_lt_of_cell? w _ hw392_6)).trans hw392_6), ((HB.out.cell (World.block_lt_of_cell? w _ hw392_7)).trans hw392_7), ((HB.out.cell (World.block_lt_of_cell? w _ hw392_8)).trans hw392_8), ((HB.out.cell (World.block_lt_of_cell? w _ hw392_9)).trans hw392_9), ((HB.out.cell (World.block_lt_of_cell? w _ hw392_10)).trans hw392_10), ((HB.out.cell (World.block_lt_of_cell? w _ hw392_11)).trans hw392_11)⟩ (fun hHeld => ?_)
        clear hK K
        refine norm_ (a' := ?_) ?_ ?_
        rotate_left
        ·show Act.put _ (some 19) _ = _
         simp only [Act.put, List.setIfInBounds_toArray, List.set_cons_zero, List.set_cons_succ, i64_w, i32_w]
         rfl
        refine pure_ (i := 10) (N := some 20) (v := ?_) (a' := ?_) #[true, true, true, true, true, true, true, true, true, true, true] rfl rfl (any_of HT_.out (by kernel_rfl)) (fun _ _ _ h => h) (Or.inl ⟨by rfl, ?_⟩) ?_ ?_
        rotate_left
        ·intro w'
         go_simp
         with_reducible rfl
        rotate_left
        ·simp only [Act.put, List.setIfInBounds_toArray, List.set_cons_zero, List.set_cons_succ, i64_w, i32_w]
         rfl
        refine done_ (done_of HT_.out (by kernel_rfl)) ?_
        try go_wp2
        go_roundg k1
        case measure => have := HK1.out; omega
        case rel => exact ⟨(wrap64 (x3_1 + 1)), (by first | rfl | (simp; done) | (simp [*]; done)), H', ⟨by have := HK1.out; omega⟩, ⟨by repeat (first | (with_reducible first | exact HB.out | apply below_alloc | apply pw_below_drewN | apply below_drew1) | exact HB.out)⟩⟩
      ·rw [if_neg c6] at H
       exact absurd H (by simp)
     ·rw [if_neg c5] at H
      exact absurd H (by simp)
    ·rw [if_neg c4] at H
     exact absurd H (by simp)
   ·rw [if_neg c2] at H
    have c2b0 : decide (x3_1 < (l0.length : Int)) = false := decide_eq_false c2
    clear c2
    obtain rfl := Option.some.inj H
    go_wp2
    go_ret
    exact ⟨by first | rfl | (simp [errW_none, errW_some] <;> rfl) | (simp [*, errW_none, errW_some] <;> rfl), by repeat (first | (with_reducible first | exact HB.out | apply below_alloc | apply pw_below_drewN | apply below_drew1) | exact HB.out)⟩

end Go.Proofs.Ythlelhndmnkmjaa.Pr
