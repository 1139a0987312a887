-- printed by xprint.py (this seat's own program, over the kit's print.py); not trusted: Lean checks it
import Derived.Test.YthlelhndmnkmjaaPr0
import Derived.Test.YthlelhndmnkmjaaPrf50
namespace Go.Proofs.Ythlelhndmnkmjaa.Pr
open Go.RowKit Go.Proofs.YthlelhndmnkmjaaW.PrintWords Go.Proofs.YthlelhndmnkmjaaW.PrintLast Go.Proofs.YthlelhndmnkmjaaW.PrintMore
attribute [local go_sem] max2_int min2_int max_two min_two max_three min_three max_four min_four   -- for this text's walks alone
set_option linter.unusedVariables false
set_option linter.unusedSimpArgs false

/-! ### tithebarnref24_Sorted: function 34 -/
def tithebarnref24_Sorted.l0 : Nat → List (S49) → Int → Option (Bool)
 | 0, _, _ => none
 | k + 1, x0, x3 => if x3 < (x0.length : Int) then (if 0 ≤ (wrap64 (x3 - 1)) then (if (wrap64 (x3 - 1)) < (x0.length : Int) then (if 0 ≤ x3 then ((tithebarnref02_Ahead_c.f ((rd_T49 x0 (wrap64 (x3 - 1))).f0.f0) ((rd_T49 x0 (wrap64 (x3 - 1))).f0.f1) ((rd_T49 x0 (wrap64 (x3 - 1))).f0.f2) ((rd_T49 x0 x3).f0.f0) ((rd_T49 x0 x3).f0.f1) ((rd_T49 x0 x3).f0.f2)).bind fun t356 => (if t356 = true then (tithebarnref24_Sorted.l0 k x0 (wrap64 (x3 + 1))) else (some false))) else (none)) else (none)) else (none)) else (some true)
def tithebarnref24_Sorted.f (k : Nat) (l0 : List (S49)) : Option (Bool) := tithebarnref24_Sorted.l0 k l0 1
theorem tithebarnref24_Sorted.mono_l : ∀ k, (∀ y0 y1, LeO (tithebarnref24_Sorted.l0 k y0 y1) (tithebarnref24_Sorted.l0 (k + 1) y0 y1))
 | 0 => fun _ _ r h => by simp [tithebarnref24_Sorted.l0] at h
 | k + 1 => by
  have ih0 := tithebarnref24_Sorted.mono_l k
  ·intro y0 y1
   unfold tithebarnref24_Sorted.l0
   repeat' first
   | (with_reducible exact ih0 _ _)
   | (with_reducible exact LeO.refl _)
   | (with_reducible exact LeO.none _)
   | (with_reducible refine LeO.ite ?_ ?_)
   | (with_reducible refine LeO.bind ?_ (fun _ => ?_))
   | exact ih0 _ _
   | exact LeO.none _
   | refine LeO.ite ?_ ?_
   | refine LeO.bind ?_ (fun _ => ?_)
theorem tithebarnref24_Sorted.mono : ∀ a0 k, LeO (tithebarnref24_Sorted.f k a0) (tithebarnref24_Sorted.f (k + 1) a0) := by
 intro a0 k
 have ih0 := tithebarnref24_Sorted.mono_l k
 unfold tithebarnref24_Sorted.f
 repeat' first
   | (with_reducible exact ih0 _ _)
   | (with_reducible exact LeO.refl _)
   | (with_reducible exact LeO.none _)
   | (with_reducible refine LeO.ite ?_ ?_)
   | (with_reducible refine LeO.bind ?_ (fun _ => ?_))
   | exact ih0 _ _
   | exact LeO.none _
   | refine LeO.ite ?_ ?_
   | refine LeO.bind ?_ (fun _ => ?_)
def tithebarnref24_Sorted.T4 : Bool × List (List Nat × List Nat) := (true, [([], []), ([], []), ([1], [1]), ([0, 2], [0, 2]), ([3], [3]), ([4], [4]), ([], []), ([], []), ([6, 7], [6, 7]), ([8], [8]), ([9], [9]), ([5, 10], [5, 10]), ([11], [11])])
def tithebarnref24_Sorted.B4 : List Nat := [0, 0, 2, 7, 15, 31, 0, 0, 192, 448, 960, 2047, 4095]
theorem tithebarnref24_Sorted.tab4 : rtab .any (opsOf Try.f34 4) = tithebarnref24_Sorted.T4 := by kernel_rfl
theorem tithebarnref24_Sorted.bits4 : waitsOk tithebarnref24_Sorted.T4.2 tithebarnref24_Sorted.B4 = true := by kernel_rfl
set_option maxHeartbeats 8000000 in
set_option maxRecDepth 100000 in
theorem tithebarnref24_Sorted.calls (k : Nat) (A0 : Option Addr) (c0 : Nat) (l0 : List (S49)) (r : Bool) (w : World) (hr0 : Kd.C k49 w A0 l0.length l0) (hc0 : l0.length ≤ c0) (h : tithebarnref24_Sorted.f k l0 = some r) :
  Calls Try.prog 34 #[.slice A0 l0.length c0] w fun e w' => e = .returned (.bool r) ∧ Below w.heap.size w w' := by
 have hu37 := Try.underlying37
 have HR0 := Aside0.mk hr0
 have HC0 := Aside0.mk hc0
 clear hr0 hc0
 have HB := Aside0.mk (Below.refl w.heap.size w)
 have H : (tithebarnref24_Sorted.l0 k l0 1) = some r := h
 clear h
 have H' := Aside0.mk H
 clear H
 go_enter Try.func34, Try.ntmps34
 go_wp2
 go_loopg [3] k (fun kq v3 w' => ∃ (x3_1 : Int), v3 = .int .i64 x3_1 ∧ Aside0 (tithebarnref24_Sorted.l0 kq l0 x3_1 = some r) ∧ Aside0 (kq ≤ k) ∧ Aside0 (Below w.heap.size w w'))
 case atStart => exact ⟨(1), (by first | rfl | (simp; done) | (simp [*]; done)), H', ⟨Nat.le_refl _⟩, ⟨by repeat (first | (with_reducible first | exact HB.out | apply below_alloc | apply pw_below_drewN | apply below_drew1) | exact HB.out)⟩⟩
 case round =>
  clear H'
  obtain ⟨x3_1, rfl, HA, HK1, HB⟩ := hrel
  cases gk with
  | zero => exact absurd HA.out (by simp [tithebarnref24_Sorted.l0])
  | succ k1 =>
   have H := HA.out
   clear HA
   simp only [tithebarnref24_Sorted.l0] at H
   by_cases c2 : x3_1 < (l0.length : Int)
   ·rw [if_pos c2] at H
    have c2b0 : decide (x3_1 < (l0.length : Int)) = true := decide_eq_true c2
    clear c2
    obtain ⟨ji3, hji3⟩ : ∃ j_ : Int, (wrap64 (x3_1 - 1)) = j_ := ⟨_, rfl⟩
    replace H : (if 0 ≤ (ji3) then (if (ji3) < (l0.length : Int) then (if 0 ≤ x3_1 then ((tithebarnref02_Ahead_c.f ((rd_T49 l0 (ji3)).f0.f0) ((rd_T49 l0 (ji3)).f0.f1) ((rd_T49 l0 (ji3)).f0.f2) ((rd_T49 l0 x3_1).f0.f0) ((rd_T49 l0 x3_1).f0.f1) ((rd_T49 l0 x3_1).f0.f2)).bind fun t356 => (if t356 = true then (tithebarnref24_Sorted.l0 k1 l0 (wrap64 (x3_1 + 1))) else (some false))) else (none)) else (none)) else (none)) = some r := by first | (rw [hji3] at H; exact H) | (simp only [hji3] at H ⊢; exact H)
    have hji3w : (IntKind.i64.wrap (x3_1 - 1)) = ji3 := (i64_w _).trans hji3
    by_cases c4 : 0 ≤ (ji3)
    ·rw [if_pos c4] at H
     have c4b0 : decide (0 ≤ (ji3)) = true := decide_eq_true c4
     clear c4
     by_cases c5 : (ji3) < (l0.length : Int)
     ·rw [if_pos c5] at H
      have c5b0 : decide ((ji3) < (l0.length : Int)) = true := decide_eq_true c5
      clear c5
      by_cases c6 : 0 ≤ x3_1
      ·rw [if_pos c6] at H
       have c6b0 : decide (0 ≤ x3_1) = true := decide_eq_true c6
       clear c6
       replace H := Option.bind_eq_some_iff.mp H
       obtain ⟨t356, A70, H⟩ := H
       replace H : (if t356 = true then (tithebarnref24_Sorted.l0 k1 l0 (wrap64 (x3_1 + 1))) else (some false)) = some r := H
       have A7 := Aside0.mk A70
       clear A70
       by_cases c8 : t356 = true
       ·subst c8
        have H1 : (tithebarnref24_Sorted.l0 k1 l0 (wrap64 (x3_1 + 1))) = some r := by rw [if_pos rfl] at H; exact H
        clear H
        have H := H1
        clear H1
        have H' := Aside0.mk H
        clear H
        try go_wp2
        have n0_ := Aside0.mk (below_drew1 HB.out)
        clear HB
        have HB := n0_
        clear n0_
        have p354 : 0 ≤ ((ji3) : Int) := of_decide_eq_true (by first | (with_reducible assumption) | assumption)
        have q354 : (ji3) < (l0.length : Int) := of_decide_eq_true (by first | (with_reducible assumption) | assumption)
        obtain ⟨ad354, e354, hx354_0, hx354_1, hx354_2, hx354_3, hx354_4, hx354_5, hx354_6, hx354_7, hx354_8, hx354_9, hx354_10, hx354_11⟩ := at_T49 HR0.out (ji3) p354 q354
        have hw354_11 := hx354_11
        have hw354_10 := hx354_10
        have hw354_9 := hx354_9
        have hw354_8 := hx354_8
        have hw354_7 := hx354_7
        have hw354_6 := hx354_6
        have hw354_5 := hx354_5
        have hw354_4 := hx354_4
        have hw354_3 := hx354_3
        have hw354_2 := hx354_2
        have hw354_1 := hx354_1
        have hw354_0 := hx354_0
        cases e354
        replace hx354_0 := (HB.out.cell (World.block_lt_of_cell? w _ hx354_0)).trans hx354_0
        replace hx354_1 := (HB.out.cell (World.block_lt_of_cell? w _ hx354_1)).trans hx354_1
        replace hx354_2 := (HB.out.cell (World.block_lt_of_cell? w _ hx354_2)).trans hx354_2
        replace hx354_3 := (HB.out.cell (World.block_lt_of_cell? w _ hx354_3)).trans hx354_3
        replace hx354_4 := (HB.out.cell (World.block_lt_of_cell? w _ hx354_4)).trans hx354_4
        replace hx354_5 := (HB.out.cell (World.block_lt_of_cell? w _ hx354_5)).trans hx354_5
        replace hx354_6 := (HB.out.cell (World.block_lt_of_cell? w _ hx354_6)).trans hx354_6
        replace hx354_7 := (HB.out.cell (World.block_lt_of_cell? w _ hx354_7)).trans hx354_7
        replace hx354_8 := (HB.out.cell (World.block_lt_of_cell? w _ hx354_8)).trans hx354_8
        replace hx354_9 := (HB.out.cell (World.block_lt_of_cell? w _ hx354_9)).trans hx354_9
        replace hx354_10 := (HB.out.cell (World.block_lt_of_cell? w _ hx354_10)).trans hx354_10
        replace hx354_11 := (HB.out.cell (World.block_lt_of_cell? w _ hx354_11)).trans hx354_11
        replace p354 := eq_true p354
        replace q354 := eq_true q354
        have p355 : 0 ≤ (x3_1 : Int) := of_decide_eq_true (by first | (with_reducible assumption) | assumption)
        have q355 : x3_1 < (l0.length : Int) := of_decide_eq_true (by first | (with_reducible assumption) | assumption)
        obtain ⟨ad355, e355, hx355_0, hx355_1, hx355_2, hx355_3, hx355_4, hx355_5, hx355_6, hx355_7, hx355_8, hx355_9, hx355_10, hx355_11⟩ := at_T49 HR0.out x3_1 p355 q355
        have hw355_11 := hx355_11
        have hw355_10 := hx355_10
        have hw355_9 := hx355_9
        have hw355_8 := hx355_8
        have hw355_7 := hx355_7
        have hw355_6 := hx355_6
        have hw355_5 := hx355_5
        have hw355_4 := hx355_4
        have hw355_3 := hx355_3
        have hw355_2 := hx355_2
        have hw355_1 := hx355_1
        have hw355_0 := hx355_0
        obtain rfl : ad354 = ad355 := (by injection e355)
        replace hx355_0 := (HB.out.cell (World.block_lt_of_cell? w _ hx355_0)).trans hx355_0
        replace hx355_1 := (HB.out.cell (World.block_lt_of_cell? w _ hx355_1)).trans hx355_1
        replace hx355_2 := (HB.out.cell (World.block_lt_of_cell? w _ hx355_2)).trans hx355_2
        replace hx355_3 := (HB.out.cell (World.block_lt_of_cell? w _ hx355_3)).trans hx355_3
        replace hx355_4 := (HB.out.cell (World.block_lt_of_cell? w _ hx355_4)).trans hx355_4
        replace hx355_5 := (HB.out.cell (World.block_lt_of_cell? w _ hx355_5)).trans hx355_5
        replace hx355_6 := (HB.out.cell (World.block_lt_of_cell? w _ hx355_6)).trans hx355_6
        replace hx355_7 := (HB.out.cell (World.block_lt_of_cell? w _ hx355_7)).trans hx355_7
        replace hx355_8 := (HB.out.cell (World.block_lt_of_cell? w _ hx355_8)).trans hx355_8
        replace hx355_9 := (HB.out.cell (World.block_lt_of_cell? w _ hx355_9)).trans hx355_9
        replace hx355_10 := (HB.out.cell (World.block_lt_of_cell? w _ hx355_10)).trans hx355_10
        replace hx355_11 := (HB.out.cell (World.block_lt_of_cell? w _ hx355_11)).trans hx355_11
        replace p355 := eq_true p355
        replace q355 := eq_true q355
        refine start_ (n := 13) (S := fun w' => w'.cell? (ad354.add (((ji3)).toNat * 12)) = some (.bool ((rd_T49 l0 (ji3)).f0.f0)) ∧ w'.cell? ⟨(ad354.add (((ji3)).toNat * 12)).block, (ad354.add (((ji3)).toNat * 12)).off + 1, none⟩ = some (.int .i64 ((rd_T49 l0 (ji3)).f0.f1)) ∧ w'.cell? ⟨(ad354.add (((ji3)).toNat * 12)).block, (ad354.add (((ji3)).toNat * 12)).off + 2, none⟩ = some (.string ((rd_T49 l0 (ji3)).f0.f2)) ∧ w'.cell? ⟨(ad354.add (((ji3)).toNat * 12)).block, (ad354.add (((ji3)).toNat * 12)).off + 3, none⟩ = some (.int .i64 ((rd_T49 l0 (ji3)).f1.f0)) ∧ w'.cell? ⟨(ad354.add (((ji3)).toNat * 12)).block, (ad354.add (((ji3)).toNat * 12)).off + 4, none⟩ = some (.int .i64 ((rd_T49 l0 (ji3)).f1.f1)) ∧ w'.cell? ⟨(ad354.add (((ji3)).toNat * 12)).block, (ad354.add (((ji3)).toNat * 12)).off + 5, none⟩ = some (.int .i64 ((rd_T49 l0 (ji3)).f1.f2)) ∧ w'.cell? ⟨(ad354.add (((ji3)).toNat * 12)).block, (ad354.add (((ji3)).toNat * 12)).off + 6, none⟩ = some (.bool ((rd_T49 l0 (ji3)).f1.f3.f0)) ∧ w'.cell? ⟨(ad354.add (((ji3)).toNat * 12)).block, (ad354.add (((ji3)).toNat * 12)).off + 7, none⟩ = some (.int .i64 ((rd_T49 l0 (ji3)).f1.f3.f1)) ∧ w'.cell? ⟨(ad354.add (((ji3)).toNat * 12)).block, (ad354.add (((ji3)).toNat * 12)).off + 8, none⟩ = some (.string ((rd_T49 l0 (ji3)).f1.f3.f2)) ∧ w'.cell? ⟨(ad354.add (((ji3)).toNat * 12)).block, (ad354.add (((ji3)).toNat * 12)).off + 9, none⟩ = some (.bool ((rd_T49 l0 (ji3)).f1.f4.f0)) ∧ w'.cell? ⟨(ad354.add (((ji3)).toNat * 12)).block, (ad354.add (((ji3)).toNat * 12)).off + 10, none⟩ = some (.int .i64 ((rd_T49 l0 (ji3)).f1.f4.f1)) ∧ w'.cell? ⟨(ad354.add (((ji3)).toNat * 12)).block, (ad354.add (((ji3)).toNat * 12)).off + 11, none⟩ = some (.string ((rd_T49 l0 (ji3)).f1.f4.f2)) ∧ w'.cell? (ad354.add ((x3_1).toNat * 12)) = some (.bool ((rd_T49 l0 x3_1).f0.f0)) ∧ w'.cell? ⟨(ad354.add ((x3_1).toNat * 12)).block, (ad354.add ((x3_1).toNat * 12)).off + 1, none⟩ = some (.int .i64 ((rd_T49 l0 x3_1).f0.f1)) ∧ w'.cell? ⟨(ad354.add ((x3_1).toNat * 12)).block, (ad354.add ((x3_1).toNat * 12)).off + 2, none⟩ = some (.string ((rd_T49 l0 x3_1).f0.f2)) ∧ w'.cell? ⟨(ad354.add ((x3_1).toNat * 12)).block, (ad354.add ((x3_1).toNat * 12)).off + 3, none⟩ = some (.int .i64 ((rd_T49 l0 x3_1).f1.f0)) ∧ w'.cell? ⟨(ad354.add ((x3_1).toNat * 12)).block, (ad354.add ((x3_1).toNat * 12)).off + 4, none⟩ = some (.int .i64 ((rd_T49 l0 x3_1).f1.f1)) ∧ w'.cell? ⟨(ad354.add ((x3_1).toNat * 12)).block, (ad354.add ((x3_1).toNat * 12)).off + 5, none⟩ = some (.int .i64 ((rd_T49 l0 x3_1).f1.f2)) ∧ w'.cell? ⟨(ad354.add ((x3_1).toNat * 12)).block, (ad354.add ((x3_1).toNat * 12)).off + 6, none⟩ = some (.bool ((rd_T49 l0 x3_1).f1.f3.f0)) ∧ w'.cell? ⟨(ad354.add ((x3_1).toNat * 12)).block, (ad354.add ((x3_1).toNat * 12)).off + 7, none⟩ = some (.int .i64 ((rd_T49 l0 x3_1).f1.f3.f1)) ∧ w'.cell? ⟨(ad354.add ((x3_1).toNat * 12)).block, (ad354.add ((x3_1).toNat * 12)).off + 8, none⟩ = some (.string ((rd_T49 l0 x3_1).f1.f3.f2)) ∧ w'.cell? ⟨(ad354.add ((x3_1).toNat * 12)).block, (ad354.add ((x3_1).toNat * 12)).off + 9, none⟩ = some (.bool ((rd_T49 l0 x3_1).f1.f4.f0)) ∧ w'.cell? ⟨(ad354.add ((x3_1).toNat * 12)).block, (ad354.add ((x3_1).toNat * 12)).off + 10, none⟩ = some (.int .i64 ((rd_T49 l0 x3_1).f1.f4.f1)) ∧ w'.cell? ⟨(ad354.add ((x3_1).toNat * 12)).block, (ad354.add ((x3_1).toNat * 12)).off + 11, none⟩ = some (.string ((rd_T49 l0 x3_1).f1.f4.f2))) (ds := []) #[false, false, false, false, false, false, false, false, false, false, false, false, false] (by kernel_rfl) rfl rfl ⟨((HB.out.cell (World.block_lt_of_cell? w _ hw354_0)).trans hw354_0), ((HB.out.cell (World.block_lt_of_cell? w _ hw354_1)).trans hw354_1), ((HB.out.cell (World.block_lt_of_cell? w _ hw354_2)).trans hw354_2), ((HB.out.cell (World.block_lt_of_cell? w _ hw354_3)).trans hw354_3), ((HB.out.cell (World.block_lt_of_cell? w _ hw354_4)).trans hw354_4), ((HB.out.cell (World.block_lt_of_cell? w _ hw354_5)).trans hw354_5), ((HB.out.cell (World.block_lt_of_cell? w _ hw354_6)).trans hw354_6), ((HB.out.cell (World.block_lt_of_cell? w _ hw354_7)).trans hw354_7), ((HB.out.cell (World.block_lt_of_cell? w _ hw354_8)).trans hw354_8), ((HB.out.cell (World.block_lt_of_cell? w _ hw354_9)).trans hw354_9), ((HB.out.cell (World.block_lt_of_cell? w _ hw354_10)).trans hw354_10), ((HB.out.cell (World.block_lt_of_cell? w _ hw354_11)).trans hw354_11), ((HB.out.cell (World.block_lt_of_cell? w _ hw355_0)).trans hw355_0), ((HB.out.cell (World.block_lt_of_cell? w _ hw355_1)).trans hw355_1), ((HB.out.cell (World.block_lt_of_cell? w _ hw355_2)).trans hw355_2), ((HB.out.cell (World.block_lt_of_cell? w _ hw355_3)).trans hw355_3), ((HB.out.cell (World.block_lt_of_cell? w _ hw355_4)).trans hw355_4), ((HB.out.cell (World.block_lt_of_cell? w _ hw355_5)).trans hw355_5), ((HB.out.cell (World.block_lt_of_cell? w _ hw355_6)).trans hw355_6), ((HB.out.cell (World.block_lt_of_cell? w _ hw355_7)).trans hw355_7), ((HB.out.cell (World.block_lt_of_cell? w _ hw355_8)).trans hw355_8), ((HB.out.cell (World.block_lt_of_cell? w _ hw355_9)).trans hw355_9), ((HB.out.cell (World.block_lt_of_cell? w _ hw355_10)).trans hw355_10), ((HB.out.cell (World.block_lt_of_cell? w _ hw355_11)).trans hw355_11)⟩ (fun hHeld => ?_); refine with_tabW tithebarnref24_Sorted.tab4 tithebarnref24_Sorted.bits4 (fun HT_ HW_ => ?_)
        generalize wr.drew = w9 at HB hx354_0 hx354_1 hx354_10 hx354_11 hx354_2 hx354_3 hx354_4 hx354_5 hx354_6 hx354_7 hx354_8 hx354_9 hx355_0 hx355_1 hx355_10 hx355_11 hx355_2 hx355_3 hx355_4 hx355_5 hx355_6 hx355_7 hx355_8 hx355_9 hHeld ⊢
        refine pure_ (i := 0) (N := some 10) (v := ?_) (a' := ?_) #[true, false, false, false, false, false, false, false, false, false, false, false, false] rfl rfl (any_of HT_.out (by kernel_rfl)) (fun _ _ _ h => h) (Or.inl ⟨by rfl, ?_⟩) ?_ ?_
        rotate_left
        ·intro w'
         go_simp
         with_reducible rfl
        rotate_left
        ·simp only [Act.put, List.setIfInBounds_toArray, List.set_cons_zero, List.set_cons_succ, i64_w, i32_w]
         rfl
        refine pure_ (i := 1) (N := some 11) (v := ?_) (a' := ?_) #[true, true, false, false, false, false, false, false, false, false, false, false, false] rfl rfl (any_of HT_.out (by kernel_rfl)) (fun _ _ _ h => h) (Or.inl ⟨by rfl, ?_⟩) ?_ ?_
        rotate_left
        ·intro w'
         go_simp
         with_reducible rfl
        rotate_left
        ·simp only [Act.put, List.setIfInBounds_toArray, List.set_cons_zero, List.set_cons_succ, i64_w, i32_w]
         rfl
        refine pure_ (i := 2) (N := some 12) (v := ?_) (a' := ?_) #[true, true, true, false, false, false, false, false, false, false, false, false, false] rfl rfl (any_of HT_.out (by kernel_rfl)) (fun _ _ _ h => h) (Or.inl ⟨by rfl, ?_⟩) ?_ ?_
        rotate_left
        ·intro w'
         go_simp
         with_reducible rfl
        rotate_left
        ·simp only [Act.put, List.setIfInBounds_toArray, List.set_cons_zero, List.set_cons_succ, i64_w, i32_w]
         rfl
        refine pure_ (i := 3) (N := some 13) (v := ?_) (a' := ?_) #[true, true, true, true, false, false, false, false, false, false, false, false, false] rfl rfl (any_of HT_.out (by kernel_rfl)) (fun _ _ _ h => h) (Or.inl ⟨by rfl, ?_⟩) ?_ ?_
        rotate_left
        ·intro w'
         go_simp
         with_reducible rfl
        rotate_left
        ·simp only [Act.put, List.setIfInBounds_toArray, List.set_cons_zero, List.set_cons_succ, i64_w, i32_w]
         rfl
        refine pure_ (i := 4) (N := some 14) (v := ?_) (a' := ?_) #[true, true, true, true, true, false, false, false, false, false, false, false, false] rfl rfl (any_of HT_.out (by kernel_rfl)) (fun _ _ _ h => h) (Or.inl ⟨by rfl, ?_⟩) ?_ ?_
        rotate_left
        ·intro w'
         go_simp
         with_reducible rfl
        rotate_left
        ·simp only [Act.put, List.setIfInBounds_toArray, List.set_cons_zero, List.set_cons_succ, i64_w, i32_w]
         rfl
        refine pure_ (i := 6) (N := some 16) (v := ?_) (a' := ?_) #[true, true, true, true, true, false, true, false, false, false, false, false, false] rfl rfl (any_of HT_.out (by kernel_rfl)) (fun _ _ _ h => h) (Or.inl ⟨by rfl, ?_⟩) ?_ ?_
        rotate_left
        ·intro w'
         go_simp
         with_reducible rfl
        rotate_left
        ·simp only [Act.put, List.setIfInBounds_toArray, List.set_cons_zero, List.set_cons_succ, i64_w, i32_w]
         rfl
        refine pure_ (i := 7) (N := some 17) (v := ?_) (a' := ?_) #[true, true, true, true, true, false, true, true, false, false, false, false, false] rfl rfl (any_of HT_.out (by kernel_rfl)) (fun _ _ _ h => h) (Or.inl ⟨by rfl, ?_⟩) ?_ ?_
        rotate_left
        ·intro w'
         go_simp
         with_reducible rfl
        rotate_left
        ·simp only [Act.put, List.setIfInBounds_toArray, List.set_cons_zero, List.set_cons_succ, i64_w, i32_w]
         rfl
        refine pure_ (i := 8) (N := some 18) (v := ?_) (a' := ?_) #[true, true, true, true, true, false, true, true, true, false, false, false, false] rfl rfl (any_of HT_.out (by kernel_rfl)) (fun _ _ _ h => h) (Or.inl ⟨by rfl, ?_⟩) ?_ ?_
        rotate_left
        ·intro w'
         go_simp
         with_reducible rfl
        rotate_left
        ·simp only [Act.put, List.setIfInBounds_toArray, List.set_cons_zero, List.set_cons_succ, i64_w, i32_w]
         rfl
        refine pure_ (i := 9) (N := some 19) (v := ?_) (a' := ?_) #[true, true, true, true, true, false, true, true, true, true, false, false, false] rfl rfl (any_of HT_.out (by kernel_rfl)) (fun _ _ _ h => h) (Or.inl ⟨by rfl, ?_⟩) ?_ ?_
        rotate_left
        ·intro w'
         go_simp
         with_reducible rfl
        rotate_left
        ·simp only [Act.put, List.setIfInBounds_toArray, List.set_cons_zero, List.set_cons_succ, i64_w, i32_w]
         rfl
        refine take_ (i := 5) (N := some 15) (v := ?_) (a' := ?_) #[true, true, true, true, true, true, true, true, true, true, false, false, false] rfl rfl (take_ofW HT_.out HW_.out (by kernel_rfl)) (fun _ _ _ h => h) (Or.inl ⟨by rfl, ?_⟩) hHeld ?_ ?_
        rotate_left
        ·rintro w' ⟨s0, s1, s2, s3, s4, s5, s6, s7, s8, s9, s10, s11, s12, s13, s14, s15, s16, s17, s18, s19, s20, s21, s22, s23⟩
         go_simp
         with_reducible rfl
        rotate_left
        ·simp only [Act.put, List.setIfInBounds_toArray, List.set_cons_zero, List.set_cons_succ, i64_w, i32_w]
         rfl
        refine take_ (i := 10) (N := some 20) (v := ?_) (a' := ?_) #[true, true, true, true, true, true, true, true, true, true, true, false, false] rfl rfl (take_ofW HT_.out HW_.out (by kernel_rfl)) (fun _ _ _ h => h) (Or.inl ⟨by rfl, ?_⟩) hHeld ?_ ?_
        rotate_left
        ·rintro w' ⟨s0, s1, s2, s3, s4, s5, s6, s7, s8, s9, s10, s11, s12, s13, s14, s15, s16, s17, s18, s19, s20, s21, s22, s23⟩
         go_simp
         with_reducible rfl
        rotate_left
        ·simp only [Act.put, List.setIfInBounds_toArray, List.set_cons_zero, List.set_cons_succ, i64_w, i32_w]
         rfl
        refine one_ (i := 11) (N := some 21) #[true, true, true, true, true, true, true, true, true, true, true, true, false] rfl rfl (one_of HT_.out (by kernel_rfl)) (by decide) (fun K hK => ?_)
        refine goes_ Try.func50 (by kernel_rfl) rfl #[.agg #[.bool ((rd_T49 l0 (ji3)).f0.f0), .int .i64 ((rd_T49 l0 (ji3)).f0.f1), .string ((rd_T49 l0 (ji3)).f0.f2)], .agg #[.bool ((rd_T49 l0 x3_1).f0.f0), .int .i64 ((rd_T49 l0 x3_1).f0.f1), .string ((rd_T49 l0 x3_1).f0.f2)]] (by rfl) rfl rfl (by (try simp only [List.map_toArray, List.map_cons, List.map_nil]); first | done | (simp only [hji3]; rfl) | rfl | (simp only [List.length_drop, List.length_take]; rfl)) ?_
        with_reducible refine (tithebarnref02_Ahead_c.calls ((rd_T49 l0 (ji3)).f0.f0) ((rd_T49 l0 (ji3)).f0.f1) ((rd_T49 l0 (ji3)).f0.f2) ((rd_T49 l0 x3_1).f0.f0) ((rd_T49 l0 x3_1).f0.f1) ((rd_T49 l0 x3_1).f0.f2) true _ A7.out).mono ?_
        rintro e w10 ⟨rfl, hb⟩
        refine ⟨_, rfl, ?_⟩
        have n0_ := Aside0.mk (below_step (by repeat (first | (with_reducible first | exact HB.out | apply below_alloc | apply pw_below_drewN | apply below_drew1) | exact HB.out)) hb)
        clear HB
        have HB := n0_
        clear n0_
        (try clear hb)
        (try clear hb2)
        (try clear hk)
        (try clear hi)
        refine hK.out _ _ ⟨((HB.out.cell (World.block_lt_of_cell? w _ hw354_0)).trans hw354_0), ((HB.out.cell (World.block_lt_of_cell? w _ hw354_1)).trans hw354_1), ((HB.out.cell (World.block_lt_of_cell? w _ hw354_2)).trans hw354_2), ((HB.out.cell (World.block_lt_of_cell? w _ hw354_3)).trans hw354_3), ((HB.out.cell (World.block_lt_of_cell? w _ hw354_4)).trans hw354_4), ((HB.out.cell (World.block_lt_of_cell? w _ hw354_5)).trans hw354_5), ((HB.out.cell (World.block_lt_of_cell? w _ hw354_6)).trans hw354_6), ((HB.out.cell (World.block_lt_of_cell? w _ hw354_7)).trans hw354_7), ((HB.out.cell (World.block_lt_of_cell? w _ hw354_8)).trans hw354_8), ((HB.out.cell (World.block_lt_of_cell? w _ hw354_9)).trans hw354_9), ((HB.out.cell (World.block_lt_of_cell? w _ hw354_10)).trans hw354_10), ((HB.out.cell (World.block_lt_of_cell? w _ hw354_11)).trans hw354_11), ((HB.out.cell (World.block_lt_of_cell? w _ hw355_0)).trans hw355_0), ((HB.out.cell (World.block_lt_of_cell? w _ hw355_1)).trans hw355_1), ((HB.out.cell (World.block_lt_of_cell? w _ hw355_2)).trans hw355_2), ((HB.out.cell (World.block_lt_of_cell? w _ hw355_3)).trans hw355_3), ((HB.out.cell (World.block_lt_of_cell? w _ hw355_4)).trans hw355_4), ((HB.out.cell (World.block_lt_of_cell? w _ hw355_5)).trans hw355_5), ((HB.out.cell (World.block_lt_of_cell? w _ hw355_6)).trans hw355_6), ((HB.out.cell (World.block_lt_of_cell? w _ hw355_7)).trans hw355_7), ((HB.out.cell (World.block_lt_of_cell? w _ hw355_8)).trans hw355_8), ((HB.out.cell (World.block_lt_of_cell? w _ hw355_9)).trans hw355_9), ((HB.out.cell (World.block_lt_of_cell? w _ hw355_10)).trans hw355_10), ((HB.out.cell (World.block_lt_of_cell? w _ hw355_11)).trans hw355_11)⟩ (fun hHeld => ?_)
        clear hK K
        refine norm_ (a' := ?_) ?_ ?_
        rotate_left
        ·show Act.put _ (some 21) _ = _
         simp only [Act.put, List.setIfInBounds_toArray, List.set_cons_zero, List.set_cons_succ, i64_w, i32_w]
         rfl
        refine pure_ (i := 12) (N := some 22) (v := ?_) (a' := ?_) #[true, true, true, true, true, true, true, true, true, true, true, true, true] rfl rfl (any_of HT_.out (by kernel_rfl)) (fun _ _ _ h => h) (Or.inl ⟨by rfl, ?_⟩) ?_ ?_
        rotate_left
        ·intro w'
         go_simp
         with_reducible rfl
        rotate_left
        ·simp only [Act.put, List.setIfInBounds_toArray, List.set_cons_zero, List.set_cons_succ, i64_w, i32_w]
         rfl
        refine done_ (done_of HT_.out (by kernel_rfl)) ?_
        try go_wp2
        go_roundg k1
        case measure => have := HK1.out; omega
        case rel => exact ⟨(wrap64 (x3_1 + 1)), (by first | rfl | (simp; done) | (simp [*]; done)), H', ⟨by have := HK1.out; omega⟩, ⟨by repeat (first | (with_reducible first | exact HB.out | apply below_alloc | apply pw_below_drewN | apply below_drew1) | exact HB.out)⟩⟩
       ·replace c8 := Bool.eq_false_iff.mpr c8
        subst c8
        have H1 : (some false) = some r := by rw [if_neg (show ¬ (false = true) by decide)] at H; exact H
        clear H
        have H := H1
        clear H1
        obtain rfl := Option.some.inj H
        try go_wp2
        have n0_ := Aside0.mk (below_drew1 HB.out)
        clear HB
        have HB := n0_
        clear n0_
        have p354 : 0 ≤ ((ji3) : Int) := of_decide_eq_true (by first | (with_reducible assumption) | assumption)
        have q354 : (ji3) < (l0.length : Int) := of_decide_eq_true (by first | (with_reducible assumption) | assumption)
        obtain ⟨ad354, e354, hx354_0, hx354_1, hx354_2, hx354_3, hx354_4, hx354_5, hx354_6, hx354_7, hx354_8, hx354_9, hx354_10, hx354_11⟩ := at_T49 HR0.out (ji3) p354 q354
        have hw354_11 := hx354_11
        have hw354_10 := hx354_10
        have hw354_9 := hx354_9
        have hw354_8 := hx354_8
        have hw354_7 := hx354_7
        have hw354_6 := hx354_6
        have hw354_5 := hx354_5
        have hw354_4 := hx354_4
        have hw354_3 := hx354_3
        have hw354_2 := hx354_2
        have hw354_1 := hx354_1
        have hw354_0 := hx354_0
        cases e354
        replace hx354_0 := (HB.out.cell (World.block_lt_of_cell? w _ hx354_0)).trans hx354_0
        replace hx354_1 := (HB.out.cell (World.block_lt_of_cell? w _ hx354_1)).trans hx354_1
        replace hx354_2 := (HB.out.cell (World.block_lt_of_cell? w _ hx354_2)).trans hx354_2
        replace hx354_3 := (HB.out.cell (World.block_lt_of_cell? w _ hx354_3)).trans hx354_3
        replace hx354_4 := (HB.out.cell (World.block_lt_of_cell? w _ hx354_4)).trans hx354_4
        replace hx354_5 := (HB.out.cell (World.block_lt_of_cell? w _ hx354_5)).trans hx354_5
        replace hx354_6 := (HB.out.cell (World.block_lt_of_cell? w _ hx354_6)).trans hx354_6
        replace hx354_7 := (HB.out.cell (World.block_lt_of_cell? w _ hx354_7)).trans hx354_7
        replace hx354_8 := (HB.out.cell (World.block_lt_of_cell? w _ hx354_8)).trans hx354_8
        replace hx354_9 := (HB.out.cell (World.block_lt_of_cell? w _ hx354_9)).trans hx354_9
        replace hx354_10 := (HB.out.cell (World.block_lt_of_cell? w _ hx354_10)).trans hx354_10
        replace hx354_11 := (HB.out.cell (World.block_lt_of_cell? w _ hx354_11)).trans hx354_11
        replace p354 := eq_true p354
        replace q354 := eq_true q354
        have p355 : 0 ≤ (x3_1 : Int) := of_decide_eq_true (by first | (with_reducible assumption) | assumption)
        have q355 : x3_1 < (l0.length : Int) := of_decide_eq_true (by first | (with_reducible assumption) | assumption)
        obtain ⟨ad355, e355, hx355_0, hx355_1, hx355_2, hx355_3, hx355_4, hx355_5, hx355_6, hx355_7, hx355_8, hx355_9, hx355_10, hx355_11⟩ := at_T49 HR0.out x3_1 p355 q355
        have hw355_11 := hx355_11
        have hw355_10 := hx355_10
        have hw355_9 := hx355_9
        have hw355_8 := hx355_8
        have hw355_7 := hx355_7
        have hw355_6 := hx355_6
        have hw355_5 := hx355_5
        have hw355_4 := hx355_4
        have hw355_3 := hx355_3
        have hw355_2 := hx355_2
        have hw355_1 := hx355_1
        have hw355_0 := hx355_0
        obtain rfl : ad354 = ad355 := (by injection e355)
        replace hx355_0 := (HB.out.cell (World.block_lt_of_cell? w _ hx355_0)).trans hx355_0
        replace hx355_1 := (HB.out.cell (World.block_lt_of_cell? w _ hx355_1)).trans hx355_1
        replace hx355_2 := (HB.out.cell (World.block_lt_of_cell? w _ hx355_2)).trans hx355_2
        replace hx355_3 := (HB.out.cell (World.block_lt_of_cell? w _ hx355_3)).trans hx355_3
        replace hx355_4 := (HB.out.cell (World.block_lt_of_cell? w _ hx355_4)).trans hx355_4
        replace hx355_5 := (HB.out.cell (World.block_lt_of_cell? w _ hx355_5)).trans hx355_5
        replace hx355_6 := (HB.out.cell (World.block_lt_of_cell? w _ hx355_6)).trans hx355_6
        replace hx355_7 := (HB.out.cell (World.block_lt_of_cell? w _ hx355_7)).trans hx355_7
        replace hx355_8 := (HB.out.cell (World.block_lt_of_cell? w _ hx355_8)).trans hx355_8
        replace hx355_9 := (HB.out.cell (World.block_lt_of_cell? w _ hx355_9)).trans hx355_9
        replace hx355_10 := (HB.out.cell (World.block_lt_of_cell? w _ hx355_10)).trans hx355_10
        replace hx355_11 := (HB.out.cell (World.block_lt_of_cell? w _ hx355_11)).trans hx355_11
        replace p355 := eq_true p355
        replace q355 := eq_true q355
        refine start_ (n := 13) (S := fun w' => w'.cell? (ad354.add (((ji3)).toNat * 12)) = some (.bool ((rd_T49 l0 (ji3)).f0.f0)) ∧ w'.cell? ⟨(ad354.add (((ji3)).toNat * 12)).block, (ad354.add (((ji3)).toNat * 12)).off + 1, none⟩ = some (.int .i64 ((rd_T49 l0 (ji3)).f0.f1)) ∧ w'.cell? ⟨(ad354.add (((ji3)).toNat * 12)).block, (ad354.add (((ji3)).toNat * 12)).off + 2, none⟩ = some (.string ((rd_T49 l0 (ji3)).f0.f2)) ∧ w'.cell? ⟨(ad354.add (((ji3)).toNat * 12)).block, (ad354.add (((ji3)).toNat * 12)).off + 3, none⟩ = some (.int .i64 ((rd_T49 l0 (ji3)).f1.f0)) ∧ w'.cell? ⟨(ad354.add (((ji3)).toNat * 12)).block, (ad354.add (((ji3)).toNat * 12)).off + 4, none⟩ = some (.int .i64 ((rd_T49 l0 (ji3)).f1.f1)) ∧ w'.cell? ⟨(ad354.add (((ji3)).toNat * 12)).block, (ad354.add (((ji3)).toNat * 12)).off + 5, none⟩ = some (.int .i64 ((rd_T49 l0 (ji3)).f1.f2)) ∧ w'.cell? ⟨(ad354.add (((ji3)).toNat * 12)).block, (ad354.add (((ji3)).toNat * 12)).off + 6, none⟩ = some (.bool ((rd_T49 l0 (ji3)).f1.f3.f0)) ∧ w'.cell? ⟨(ad354.add (((ji3)).toNat * 12)).block, (ad354.add (((ji3)).toNat * 12)).off + 7, none⟩ = some (.int .i64 ((rd_T49 l0 (ji3)).f1.f3.f1)) ∧ w'.cell? ⟨(ad354.add (((ji3)).toNat * 12)).block, (ad354.add (((ji3)).toNat * 12)).off + 8, none⟩ = some (.string ((rd_T49 l0 (ji3)).f1.f3.f2)) ∧ w'.cell? ⟨(ad354.add (((ji3)).toNat * 12)).block, (ad354.add (((ji3)).toNat * 12)).off + 9, none⟩ = some (.bool ((rd_T49 l0 (ji3)).f1.f4.f0)) ∧ w'.cell? ⟨(ad354.add (((ji3)).toNat * 12)).block, (ad354.add (((ji3)).toNat * 12)).off + 10, none⟩ = some (.int .i64 ((rd_T49 l0 (ji3)).f1.f4.f1)) ∧ w'.cell? ⟨(ad354.add (((ji3)).toNat * 12)).block, (ad354.add (((ji3)).toNat * 12)).off + 11, none⟩ = some (.string ((rd_T49 l0 (ji3)).f1.f4.f2)) ∧ w'.cell? (ad354.add ((x3_1).toNat * 12)) = some (.bool ((rd_T49 l0 x3_1).f0.f0)) ∧ w'.cell? ⟨(ad354.add ((x3_1).toNat * 12)).block, (ad354.add ((x3_1).toNat * 12)).off + 1, none⟩ = some (.int .i64 ((rd_T49 l0 x3_1).f0.f1)) ∧ w'.cell? ⟨(ad354.add ((x3_1).toNat * 12)).block, (ad354.add ((x3_1).toNat * 12)).off + 2, none⟩ = some (.string ((rd_T49 l0 x3_1).f0.f2)) ∧ w'.cell? ⟨(ad354.add ((x3_1).toNat * 12)).block, (ad354.add ((x3_1).toNat * 12)).off + 3, none⟩ = some (.int .i64 ((rd_T49 l0 x3_1).f1.f0)) ∧ w'.cell? ⟨(ad354.add ((x3_1).toNat * 12)).block, (ad354.add ((x3_1).toNat * 12)).off + 4, none⟩ = some (.int .i64 ((rd_T49 l0 x3_1).f1.f1)) ∧ w'.cell? ⟨(ad354.add ((x3_1).toNat * 12)).block, (ad354.add ((x3_1).toNat * 12)).off + 5, none⟩ = some (.int .i64 ((rd_T49 l0 x3_1).f1.f2)) ∧ w'.cell? ⟨(ad354.add ((x3_1).toNat * 12)).block, (ad354.add ((x3_1).toNat * 12)).off + 6, none⟩ = some (.bool ((rd_T49 l0 x3_1).f1.f3.f0)) ∧ w'.cell? ⟨(ad354.add ((x3_1).toNat * 12)).block, (ad354.add ((x3_1).toNat * 12)).off + 7, none⟩ = some (.int .i64 ((rd_T49 l0 x3_1).f1.f3.f1)) ∧ w'.cell? ⟨(ad354.add ((x3_1).toNat * 12)).block, (ad354.add ((x3_1).toNat * 12)).off + 8, none⟩ = some (.string ((rd_T49 l0 x3_1).f1.f3.f2)) ∧ w'.cell? ⟨(ad354.add ((x3_1).toNat * 12)).block, (ad354.add ((x3_1).toNat * 12)).off + 9, none⟩ = some (.bool ((rd_T49 l0 x3_1).f1.f4.f0)) ∧ w'.cell? ⟨(ad354.add ((x3_1).toNat * 12)).block, (ad354.add ((x3_1).toNat * 12)).off + 10, none⟩ = some (.int .i64 ((rd_T49 l0 x3_1).f1.f4.f1)) ∧ w'.cell? ⟨(ad354.add ((x3_1).toNat * 12)).block, (ad354.add ((x3_1).toNat * 12)).off + 11, none⟩ = some (.string ((rd_T49 l0 x3_1).f1.f4.f2))) (ds := []) #[false, false, false, false, false, false, false, false, false, false, false, false, false] (by kernel_rfl) rfl rfl ⟨((HB.out.cell (World.block_lt_of_cell? w _ hw354_0)).trans hw354_0), ((HB.out.cell (World.block_lt_of_cell? w _ hw354_1)).trans hw354_1), ((HB.out.cell (World.block_lt_of_cell? w _ hw354_2)).trans hw354_2), ((HB.out.cell (World.block_lt_of_cell? w _ hw354_3)).trans hw354_3), ((HB.out.cell (World.block_lt_of_cell? w _ hw354_4)).trans hw354_4), ((HB.out.cell (World.block_lt_of_cell? w _ hw354_5)).trans hw354_5), ((HB.out.cell (World.block_lt_of_cell? w _ hw354_6)).trans hw354_6), ((HB.out.cell (World.block_lt_of_cell? w _ hw354_7)).trans hw354_7), ((HB.out.cell (World.block_lt_of_cell? w _ hw354_8)).trans hw354_8), ((HB.out.cell (World.block_lt_of_cell? w _ hw354_9)).trans hw354_9), ((HB.out.cell (World.block_lt_of_cell? w _ hw354_10)).trans hw354_10), ((HB.out.cell (World.block_lt_of_cell? w _ hw354_11)).trans hw354_11), ((HB.out.cell (World.block_lt_of_cell? w _ hw355_0)).trans hw355_0), ((HB.out.cell (World.block_lt_of_cell? w _ hw355_1)).trans hw355_1), ((HB.out.cell (World.block_lt_of_cell? w _ hw355_2)).trans hw355_2), ((HB.out.cell (World.block_lt_of_cell? w _ hw355_3)).trans hw355_3), ((HB.out.cell (World.block_lt_of_cell? w _ hw355_4)).trans hw355_4), ((HB.out.cell (World.block_lt_of_cell? w _ hw355_5)).trans hw355_5), ((HB.out.cell (World.block_lt_of_cell? w _ hw355_6)).trans hw355_6), ((HB.out.cell (World.block_lt_of_cell? w _ hw355_7)).trans hw355_7), ((HB.out.cell (World.block_lt_of_cell? w _ hw355_8)).trans hw355_8), ((HB.out.cell (World.block_lt_of_cell? w _ hw355_9)).trans hw355_9), ((HB.out.cell (World.block_lt_of_cell? w _ hw355_10)).trans hw355_10), ((HB.out.cell (World.block_lt_of_cell? w _ hw355_11)).trans hw355_11)⟩ (fun hHeld => ?_); refine with_tabW tithebarnref24_Sorted.tab4 tithebarnref24_Sorted.bits4 (fun HT_ HW_ => ?_)
        generalize wr.drew = w11 at HB hx354_0 hx354_1 hx354_10 hx354_11 hx354_2 hx354_3 hx354_4 hx354_5 hx354_6 hx354_7 hx354_8 hx354_9 hx355_0 hx355_1 hx355_10 hx355_11 hx355_2 hx355_3 hx355_4 hx355_5 hx355_6 hx355_7 hx355_8 hx355_9 hHeld ⊢
        refine pure_ (i := 0) (N := some 10) (v := ?_) (a' := ?_) #[true, false, false, false, false, false, false, false, false, false, false, false, false] rfl rfl (any_of HT_.out (by kernel_rfl)) (fun _ _ _ h => h) (Or.inl ⟨by rfl, ?_⟩) ?_ ?_
        rotate_left
        ·intro w'
         go_simp
         with_reducible rfl
        rotate_left
        ·simp only [Act.put, List.setIfInBounds_toArray, List.set_cons_zero, List.set_cons_succ, i64_w, i32_w]
         rfl
        refine pure_ (i := 1) (N := some 11) (v := ?_) (a' := ?_) #[true, true, false, false, false, false, false, false, false, false, false, false, false] rfl rfl (any_of HT_.out (by kernel_rfl)) (fun _ _ _ h => h) (Or.inl ⟨by rfl, ?_⟩) ?_ ?_
        rotate_left
        ·intro w'
         go_simp
         with_reducible rfl
        rotate_left
        ·simp only [Act.put, List.setIfInBounds_toArray, List.set_cons_zero, List.set_cons_succ, i64_w, i32_w]
         rfl
        refine pure_ (i := 2) (N := some 12) (v := ?_) (a' := ?_) #[true, true, true, false, false, false, false, false, false, false, false, false, false] rfl rfl (any_of HT_.out (by kernel_rfl)) (fun _ _ _ h => h) (Or.inl ⟨by rfl, ?_⟩) ?_ ?_
        rotate_left
        ·intro w'
         go_simp
         with_reducible rfl
        rotate_left
        ·simp only [Act.put, List.setIfInBounds_toArray, List.set_cons_zero, List.set_cons_succ, i64_w, i32_w]
         rfl
        refine pure_ (i := 3) (N := some 13) (v := ?_) (a' := ?_) #[true, true, true, true, false, false, false, false, false, false, false, false, false] rfl rfl (any_of HT_.out (by kernel_rfl)) (fun _ _ _ h => h) (Or.inl ⟨by rfl, ?_⟩) ?_ ?_
        rotate_left
        ·intro w'
         go_simp
         with_reducible rfl
        rotate_left
        ·simp only [Act.put, List.setIfInBounds_toArray, List.set_cons_zero, List.set_cons_succ, i64_w, i32_w]
         rfl
        refine pure_ (i := 4) (N := some 14) (v := ?_) (a' := ?_) #[true, true, true, true, true, false, false, false, false, false, false, false, false] rfl rfl (any_of HT_.out (by kernel_rfl)) (fun _ _ _ h => h) (Or.inl ⟨by rfl, ?_⟩) ?_ ?_
        rotate_left
        ·intro w'
         go_simp
         with_reducible rfl
        rotate_left
        ·simp only [Act.put, List.setIfInBounds_toArray, List.set_cons_zero, List.set_cons_succ, i64_w, i32_w]
         rfl
        refine pure_ (i := 6) (N := some 16) (v := ?_) (a' := ?_) #[true, true, true, true, true, false, true, false, false, false, false, false, false] rfl rfl (any_of HT_.out (by kernel_rfl)) (fun _ _ _ h => h) (Or.inl ⟨by rfl, ?_⟩) ?_ ?_
        rotate_left
        ·intro w'
         go_simp
         with_reducible rfl
        rotate_left
        ·simp only [Act.put, List.setIfInBounds_toArray, List.set_cons_zero, List.set_cons_succ, i64_w, i32_w]
         rfl
        refine pure_ (i := 7) (N := some 17) (v := ?_) (a' := ?_) #[true, true, true, true, true, false, true, true, false, false, false, false, false] rfl rfl (any_of HT_.out (by kernel_rfl)) (fun _ _ _ h => h) (Or.inl ⟨by rfl, ?_⟩) ?_ ?_
        rotate_left
        ·intro w'
         go_simp
         with_reducible rfl
        rotate_left
        ·simp only [Act.put, List.setIfInBounds_toArray, List.set_cons_zero, List.set_cons_succ, i64_w, i32_w]
         rfl
        refine pure_ (i := 8) (N := some 18) (v := ?_) (a' := ?_) #[true, true, true, true, true, false, true, true, true, false, false, false, false] rfl rfl (any_of HT_.out (by kernel_rfl)) (fun _ _ _ h => h) (Or.inl ⟨by rfl, ?_⟩) ?_ ?_
        rotate_left
        ·intro w'
         go_simp
         with_reducible rfl
        rotate_left
        ·simp only [Act.put, List.setIfInBounds_toArray, List.set_cons_zero, List.set_cons_succ, i64_w, i32_w]
         rfl
        refine pure_ (i := 9) (N := some 19) (v := ?_) (a' := ?_) #[true, true, true, true, true, false, true, true, true, true, false, false, false] rfl rfl (any_of HT_.out (by kernel_rfl)) (fun _ _ _ h => h) (Or.inl ⟨by rfl, ?_⟩) ?_ ?_
        rotate_left
        ·intro w'
         go_simp
         with_reducible rfl
        rotate_left
        ·simp only [Act.put, List.setIfInBounds_toArray, List.set_cons_zero, List.set_cons_succ, i64_w, i32_w]
         rfl
        refine take_ (i := 5) (N := some 15) (v := ?_) (a' := ?_) #[true, true, true, true, true, true, true, true, true, true, false, false, false] rfl rfl (take_ofW HT_.out HW_.out (by kernel_rfl)) (fun _ _ _ h => h) (Or.inl ⟨by rfl, ?_⟩) hHeld ?_ ?_
        rotate_left
        ·rintro w' ⟨s0, s1, s2, s3, s4, s5, s6, s7, s8, s9, s10, s11, s12, s13, s14, s15, s16, s17, s18, s19, s20, s21, s22, s23⟩
         go_simp
         with_reducible rfl
        rotate_left
        ·simp only [Act.put, List.setIfInBounds_toArray, List.set_cons_zero, List.set_cons_succ, i64_w, i32_w]
         rfl
        refine take_ (i := 10) (N := some 20) (v := ?_) (a' := ?_) #[true, true, true, true, true, true, true, true, true, true, true, false, false] rfl rfl (take_ofW HT_.out HW_.out (by kernel_rfl)) (fun _ _ _ h => h) (Or.inl ⟨by rfl, ?_⟩) hHeld ?_ ?_
        rotate_left
        ·rintro w' ⟨s0, s1, s2, s3, s4, s5, s6, s7, s8, s9, s10, s11, s12, s13, s14, s15, s16, s17, s18, s19, s20, s21, s22, s23⟩
         go_simp
         with_reducible rfl
        rotate_left
        ·simp only [Act.put, List.setIfInBounds_toArray, List.set_cons_zero, List.set_cons_succ, i64_w, i32_w]
         rfl
        refine one_ (i := 11) (N := some 21) #[true, true, true, true, true, true, true, true, true, true, true, true, false] rfl rfl (one_of HT_.out (by kernel_rfl)) (by decide) (fun K hK => ?_)
        refine goes_ Try.func50 (by kernel_rfl) rfl #[.agg #[.bool ((rd_T49 l0 (ji3)).f0.f0), .int .i64 ((rd_T49 l0 (ji3)).f0.f1), .string ((rd_T49 l0 (ji3)).f0.f2)], .agg #[.bool ((rd_T49 l0 x3_1).f0.f0), .int .i64 ((rd_T49 l0 x3_1).f0.f1), .string ((rd_T49 l0 x3_1).f0.f2)]] (by rfl) rfl rfl (by (try simp only [List.map_toArray, List.map_cons, List.map_nil]); first | done | (simp only [hji3]; rfl) | rfl | (simp only [List.length_drop, List.length_take]; rfl)) ?_
        with_reducible refine (tithebarnref02_Ahead_c.calls ((rd_T49 l0 (ji3)).f0.f0) ((rd_T49 l0 (ji3)).f0.f1) ((rd_T49 l0 (ji3)).f0.f2) ((rd_T49 l0 x3_1).f0.f0) ((rd_T49 l0 x3_1).f0.f1) ((rd_T49 l0 x3_1).f0.f2) false _ A7.out).mono ?_
        rintro e w12 ⟨rfl, hb⟩
        refine ⟨_, rfl, ?_⟩
        have n0_ := Aside0.mk (below_step (by repeat (first | (with_reducible first | exact HB.out | apply below_alloc | apply pw_below_drewN | apply below_drew1) | exact HB.out)) hb)
        clear HB
        have HB := n0_
        clear n0_
        (try clear hb)
        (try clear hb2)
        (try clear hk)
        (try clear hi)
        refine hK.out _ _ ⟨((HB.out.cell (World.block_lt_of_cell? w _ hw354_0)).trans hw354_0), ((HB.out.cell (World.block_lt_of_cell? w _ hw354_1)).trans hw354_1), ((HB.out.cell (World.block_lt_of_cell? w _ hw354_2)).trans hw354_2), ((HB.out.cell (World.block_lt_of_cell? w _ hw354_3)).trans hw354_3), ((HB.out.cell (World.block_lt_of_cell? w _ hw354_4)).trans hw354_4), ((HB.out.cell (World.block_lt_of_cell? w _ hw354_5)).trans hw354_5), ((HB.out.cell (World.block_lt_of_cell? w _ hw354_6)).trans hw354_6), ((HB.out.cell (World.block_lt_of_cell? w _ hw354_7)).trans hw354_7), ((HB.out.cell (World.block_lt_of_cell? w _ hw354_8)).trans hw354_8), ((HB.out.cell (World.block_lt_of_cell? w _ hw354_9)).trans hw354_9), ((HB.out.cell (World.block_lt_of_cell? w _ hw354_10)).trans hw354_10), ((HB.out.cell (World.block_lt_of_cell? w _ hw354_11)).trans hw354_11), ((HB.out.cell (World.block_lt_of_cell? w _ hw355_0)).trans hw355_0), ((HB.out.cell (World.block_lt_of_cell? w _ hw355_1)).trans hw355_1), ((HB.out.cell (World.block_lt_of_cell? w _ hw355_2)).trans hw355_2), ((HB.out.cell (World.block_lt_of_cell? w _ hw355_3)).trans hw355_3), ((HB.out.cell (World.block_lt_of_cell? w _ hw355_4)).trans hw355_4), ((HB.out.cell (World.block_lt_of_cell? w _ hw355_5)).trans hw355_5), ((HB.out.cell (World.block_lt_of_cell? w _ hw355_6)).trans hw355_6), ((HB.out.cell (World.block_lt_of_cell? w _ hw355_7)).trans hw355_7), ((HB.out.cell (World.block_lt_of_cell? w _ hw355_8)).trans hw355_8), ((HB.out.cell (World.block_lt_of_cell? w _ hw355_9)).trans hw355_9), ((HB.out.cell (World.block_lt_of_cell? w _ hw355_10)).trans hw355_10), ((HB.out.cell (World.block_lt_of_cell? w _ hw355_11)).trans hw355_11)⟩ (fun hHeld => ?_)
        clear hK K
        refine norm_ (a' := ?_) ?_ ?_
        rotate_left
        ·show Act.put _ (some 21) _ = _
         simp only [Act.put, List.setIfInBounds_toArray, List.set_cons_zero, List.set_cons_succ, i64_w, i32_w]
         rfl
        refine pure_ (i := 12) (N := some 22) (v := ?_) (a' := ?_) #[true, true, true, true, true, true, true, true, true, true, true, true, true] rfl rfl (any_of HT_.out (by kernel_rfl)) (fun _ _ _ h => h) (Or.inl ⟨by rfl, ?_⟩) ?_ ?_
        rotate_left
        ·intro w'
         go_simp
         with_reducible rfl
        rotate_left
        ·simp only [Act.put, List.setIfInBounds_toArray, List.set_cons_zero, List.set_cons_succ, i64_w, i32_w]
         rfl
        refine done_ (done_of HT_.out (by kernel_rfl)) ?_
        try go_wp2
        go_ret
        exact ⟨by first | rfl | (simp [errW_none, errW_some] <;> rfl) | (simp only [← hji3]; first | rfl | (simp [errW_none, errW_some] <;> rfl)) | (simp [*, errW_none, errW_some] <;> rfl), by repeat (first | (with_reducible first | exact HB.out | apply below_alloc | apply pw_below_drewN | apply below_drew1) | exact HB.out)⟩
      ·rw [if_neg c6] at H
       exact absurd H (by simp)
     ·rw [if_neg c5] at H
      exact absurd H (by simp)
    ·rw [if_neg c4] at H
     exact absurd H (by simp)
   ·rw [if_neg c2] at H
    have c2b0 : decide (x3_1 < (l0.length : Int)) = false := decide_eq_false c2
    clear c2
    obtain rfl := Option.some.inj H
    go_wp2
    go_ret
    exact ⟨by first | rfl | (simp [errW_none, errW_some] <;> rfl) | (simp [*, errW_none, errW_some] <;> rfl), by repeat (first | (with_reducible first | exact HB.out | apply below_alloc | apply pw_below_drewN | apply below_drew1) | exact HB.out)⟩

end Go.Proofs.Ythlelhndmnkmjaa.Pr
