-- printed by xprint.py
import Derived.Test.YtcbgcmaioicdbaaPr0
import Derived.Test.YtcbgcmaioicdbaaPrf20
namespace Go.Proofs.Ytcbgcmaioicdbaa.Pr
open Go.RowKit Go.Proofs.YtcbgcmaioicdbaaW PrintWords PrintLast PrintMore
set_option linter.unusedVariables false
set_option linter.unusedSimpArgs false

/-! ### tithebarnref17_Disjoint: function 14 -/
mutual
def tithebarnref17_Disjoint.l0 : Nat → List (S38) → Int → Option (Bool)
 | 0, _, _ => none
 | k + 1, x0, x3 => if x3 < (x0.length : Int) then (tithebarnref17_Disjoint.l1 k x0 x3 0) else (some true)
def tithebarnref17_Disjoint.l1 : Nat → List (S38) → Int → Int → Option (Bool)
 | 0, _, _, _ => none
 | k + 1, x0, x3, x4 => if x4 < x3 then (if 0 ≤ x3 then (if x3 < (x0.length : Int) then (if 0 ≤ x4 then (if x4 < (x0.length : Int) then (if ((rd_T38 x0 x3).f1) = ((rd_T38 x0 x4).f1) then (if ((rd_T38 x0 x3).f1) = 0 then (tithebarnref17_Disjoint.j2 k x0 x3 x4 false) else ((tithebarnref17_Overlap.f ((rd_T38 x0 x3).f0) ((rd_T38 x0 x3).f1) ((rd_T38 x0 x3).f2.f0) ((rd_T38 x0 x3).f2.f1) ((rd_T38 x0 x3).f2.f2) ((rd_T38 x0 x3).f3.f0) ((rd_T38 x0 x3).f3.f1) ((rd_T38 x0 x3).f3.f2) ((rd_T38 x0 x4).f0) ((rd_T38 x0 x4).f1) ((rd_T38 x0 x4).f2.f0) ((rd_T38 x0 x4).f2.f1) ((rd_T38 x0 x4).f2.f2) ((rd_T38 x0 x4).f3.f0) ((rd_T38 x0 x4).f3.f1) ((rd_T38 x0 x4).f3.f2)).bind fun t298 => (tithebarnref17_Disjoint.j2 k x0 x3 x4 t298))) else (tithebarnref17_Disjoint.j2 k x0 x3 x4 false)) else (none)) else (none)) else (none)) else (none)) else (tithebarnref17_Disjoint.l0 k x0 (wrap64 (x3 + 1)))
def tithebarnref17_Disjoint.j2 : Nat → List (S38) → Int → Int → Bool → Option (Bool)
 | 0, _, _, _, _ => none
 | k + 1, x0, x3, x4, x45 => if x45 = true then (some false) else (tithebarnref17_Disjoint.l1 k x0 x3 (wrap64 (x4 + 1)))
end
def tithebarnref17_Disjoint.f (k : Nat) (l0 : List (S38)) : Option (Bool) := tithebarnref17_Disjoint.l0 k l0 0
theorem tithebarnref17_Disjoint.mono_l : ∀ k, (∀ y0 y1, LeO (tithebarnref17_Disjoint.l0 k y0 y1) (tithebarnref17_Disjoint.l0 (k + 1) y0 y1)) ∧ (∀ y0 y1 y2, LeO (tithebarnref17_Disjoint.l1 k y0 y1 y2) (tithebarnref17_Disjoint.l1 (k + 1) y0 y1 y2)) ∧ (∀ y0 y1 y2 y3, LeO (tithebarnref17_Disjoint.j2 k y0 y1 y2 y3) (tithebarnref17_Disjoint.j2 (k + 1) y0 y1 y2 y3))
 | 0 => ⟨fun _ _ r h => by simp [tithebarnref17_Disjoint.l0] at h, fun _ _ _ r h => by simp [tithebarnref17_Disjoint.l1] at h, fun _ _ _ _ r h => by simp [tithebarnref17_Disjoint.j2] at h⟩
 | k + 1 => by
  obtain ⟨ih0, ih1, ih2⟩ := tithebarnref17_Disjoint.mono_l k
  refine ⟨?_, ?_, ?_⟩
  ·intro y0 y1
   unfold tithebarnref17_Disjoint.l0
   repeat' first
   | (with_reducible exact ih0 _ _)
   | (with_reducible exact ih1 _ _ _)
   | (with_reducible exact ih2 _ _ _ _)
   | (with_reducible exact LeO.refl _)
   | (with_reducible exact LeO.none _)
   | (with_reducible refine LeO.ite ?_ ?_)
   | (with_reducible refine LeO.bind ?_ (fun _ => ?_))
  ·intro y0 y1 y2
   unfold tithebarnref17_Disjoint.l1
   repeat' first
   | (with_reducible exact ih0 _ _)
   | (with_reducible exact ih1 _ _ _)
   | (with_reducible exact ih2 _ _ _ _)
   | (with_reducible exact LeO.refl _)
   | (with_reducible exact LeO.none _)
   | (with_reducible refine LeO.ite ?_ ?_)
   | (with_reducible refine LeO.bind ?_ (fun _ => ?_))
  ·intro y0 y1 y2 y3
   unfold tithebarnref17_Disjoint.j2
   repeat' first
   | (with_reducible exact ih0 _ _)
   | (with_reducible exact ih1 _ _ _)
   | (with_reducible exact ih2 _ _ _ _)
   | (with_reducible exact LeO.refl _)
   | (with_reducible exact LeO.none _)
   | (with_reducible refine LeO.ite ?_ ?_)
   | (with_reducible refine LeO.bind ?_ (fun _ => ?_))
theorem tithebarnref17_Disjoint.mono : ∀ a0 k, LeO (tithebarnref17_Disjoint.f k a0) (tithebarnref17_Disjoint.f (k + 1) a0) := by
 intro a0 k
 obtain ⟨ih0, ih1, ih2⟩ := tithebarnref17_Disjoint.mono_l k
 unfold tithebarnref17_Disjoint.f
 repeat' first
   | (with_reducible exact ih0 _ _)
   | (with_reducible exact ih1 _ _ _)
   | (with_reducible exact ih2 _ _ _ _)
   | (with_reducible exact LeO.refl _)
   | (with_reducible exact LeO.none _)
   | (with_reducible refine LeO.ite ?_ ?_)
   | (with_reducible refine LeO.bind ?_ (fun _ => ?_))
def tithebarnref17_Disjoint.T7 : Bool × List (List Nat × List Nat) := (true, [([], []), ([], []), ([0, 1], [0, 1]), ([2], [2]), ([3], [3]), ([], []), ([], []), ([5, 6], [5, 6]), ([7], [7]), ([8], [8]), ([4, 9], [4, 9]), ([10], [10]), ([11], [11]), ([11], [11]), ([12, 13, 11], [11, 12, 13]), ([14, 11], [11, 14]), ([15, 11], [11, 15]), ([16, 11], [11, 16]), ([11, 17], [11, 17]), ([18, 11], [18]), ([19], [19]), ([19], [19]), ([20, 21, 19], [19, 20, 21]), ([22, 19], [19, 22]), ([19], [19]), ([19], [19]), ([24, 25, 19], [19, 24, 25]), ([26, 19], [19, 26]), ([23, 27, 19, 19], [19, 23, 27]), ([19, 28], [19, 28])])
def tithebarnref17_Disjoint.B7 : List Nat := [0, 0, 3, 7, 15, 0, 0, 96, 224, 480, 1023, 2047, 4095, 4095, 16383, 32767, 65535, 131071, 262143, 524287, 1048575, 1048575, 4194303, 8388607, 1048575, 1048575, 51380223, 118489087, 268435455, 536870911]
theorem tithebarnref17_Disjoint.tab7 : rtab .any (opsOf Try.f14 7) = tithebarnref17_Disjoint.T7 := by kernel_rfl
theorem tithebarnref17_Disjoint.bits7 : waitsOk tithebarnref17_Disjoint.T7.2 tithebarnref17_Disjoint.B7 = true := by kernel_rfl
set_option maxHeartbeats 8000000 in
set_option maxRecDepth 100000 in
theorem tithebarnref17_Disjoint.calls (k : Nat) (A0 : Option Addr) (c0 : Nat) (l0 : List (S38)) (r : Bool) (w : World) (hr0 : Kd.C k38 w A0 l0.length l0) (hc0 : l0.length ≤ c0) (h : tithebarnref17_Disjoint.f k l0 = some r) :
  Calls Try.prog 14 #[.slice A0 l0.length c0] w fun e w' => e = .returned (.bool r) ∧ Below w.heap.size w w' := by
 have hu38 := Try.underlying38
 have HR0 := Aside0.mk hr0
 have HC0 := Aside0.mk hc0
 clear hr0 hc0
 have HB := Aside0.mk (Below.refl w.heap.size w)
 have H : (tithebarnref17_Disjoint.l0 k l0 0) = some r := h
 clear h
 have H' := Aside0.mk H
 clear H
 go_enter Try.func14, Try.ntmps14
 go_wp2
 go_loopg [3] k (fun kq v3 w' => ∃ (x3_1 : Int), v3 = .int .i64 x3_1 ∧ Aside0 (tithebarnref17_Disjoint.l0 kq l0 x3_1 = some r) ∧ Aside0 (kq ≤ k) ∧ Aside0 (Below w.heap.size w w'))
 case atStart => exact ⟨(0), (by first | rfl | (simp; done) | (simp [*]; done)), H', ⟨Nat.le_refl _⟩, ⟨by repeat (first | (with_reducible first | exact HB.out | apply below_alloc | apply pw_below_drewN | apply below_drew1) | exact HB.out)⟩⟩
 case round =>
  clear H'
  try clear c1
  obtain ⟨x3_1, rfl, HA, HK1, HB⟩ := hrel
  cases gk with
  | zero => exact absurd HA.out (by simp [tithebarnref17_Disjoint.l0])
  | succ k1 =>
   have H := HA.out
   clear HA
   simp only [tithebarnref17_Disjoint.l0] at H
   by_cases c2 : x3_1 < (l0.length : Int)
   ·rw [if_pos c2] at H
    have c2b0 : decide (x3_1 < (l0.length : Int)) = true := decide_eq_true c2
    clear c2
    have H' := Aside0.mk H
    clear H
    go_wp2
    go_loopg [4] k1 (fun kq v4 w' => ∃ (x4_2 : Int), v4 = .int .i64 x4_2 ∧ Aside0 (tithebarnref17_Disjoint.l1 kq l0 x3_1 x4_2 = some r) ∧ Aside0 (kq ≤ k1) ∧ Aside0 (Below w.heap.size w w'))
    case atStart => exact ⟨(0), (by first | rfl | (simp; done) | (simp [*]; done)), H', ⟨Nat.le_refl _⟩, ⟨by repeat (first | (with_reducible first | exact HB.out | apply below_alloc | apply pw_below_drewN | apply below_drew1) | exact HB.out)⟩⟩
    case round =>
     clear H'
     try clear c1
     try clear c2
     try clear c2b0
     try clear p2
     obtain ⟨x4_2, rfl, HA, HK2, HB⟩ := hrel
     cases gk with
     | zero => exact absurd HA.out (by simp [tithebarnref17_Disjoint.l1])
     | succ k2 =>
      have H := HA.out
      clear HA
      simp only [tithebarnref17_Disjoint.l1] at H
      by_cases c3 : x4_2 < x3_1
      ·rw [if_pos c3] at H
       have c3b0 : decide (x4_2 < x3_1) = true := decide_eq_true c3
       clear c3
       have HC4 := Aside0.mk H
       clear H
       go_upto_region 7 with (fail)
       go_cut [45] (fun v45 wc => ∃ (kq : Nat) (x45_3 : Bool), v45 = .bool x45_3 ∧ Aside0 (tithebarnref17_Disjoint.j2 kq l0 x3_1 x4_2 x45_3 = some r) ∧ Aside0 (kq ≤ k2) ∧ Aside0 (Below w.heap.size w wc))
       case first =>
        have H := HC4.out
        clear HC4
        by_cases c5 : 0 ≤ x3_1
        ·rw [if_pos c5] at H
         have c5b0 : decide (0 ≤ x3_1) = true := decide_eq_true c5
         clear c5
         (first | rw [c5b0] | (simp only [i64_w, i32_w]; rw [c5b0]) | skip)
         by_cases c6 : x3_1 < (l0.length : Int)
         ·rw [if_pos c6] at H
          have c6b0 : decide (x3_1 < (l0.length : Int)) = true := decide_eq_true c6
          clear c6
          by_cases c7 : 0 ≤ x4_2
          ·rw [if_pos c7] at H
           have c7b0 : decide (0 ≤ x4_2) = true := decide_eq_true c7
           clear c7
           by_cases c8 : x4_2 < (l0.length : Int)
           ·rw [if_pos c8] at H
            have c8b0 : decide (x4_2 < (l0.length : Int)) = true := decide_eq_true c8
            clear c8
            by_cases c9 : ((rd_T38 l0 x3_1).f1) = ((rd_T38 l0 x4_2).f1)
            ·rw [if_pos c9] at H
             have c9b0 : (((rd_T38 l0 x3_1).f1) == ((rd_T38 l0 x4_2).f1)) = true := beq_iff_eq.mpr c9
             have c9b1 : (((rd_T38 l0 x3_1).f1) != ((rd_T38 l0 x4_2).f1)) = false := bne_eq_false_iff_eq.mpr c9
             clear c9
             by_cases c10 : ((rd_T38 l0 x3_1).f1) = 0
             ·rw [if_pos c10] at H
              have c10b0 : (((rd_T38 l0 x3_1).f1) == 0) = true := beq_iff_eq.mpr c10
              have c10b1 : (((rd_T38 l0 x3_1).f1) != 0) = false := bne_eq_false_iff_eq.mpr c10
              clear c10
              have H' := Aside0.mk H
              clear H
              try go_wp2
              have n0_ := Aside0.mk (below_drew1 HB.out)
              clear HB
              have HB := n0_
              clear n0_
              have p293 : 0 ≤ (x3_1 : Int) := of_decide_eq_true (by with_reducible assumption)
              have q293 : x3_1 < (l0.length : Int) := of_decide_eq_true (by with_reducible assumption)
              obtain ⟨ad293, e293, hx293_0, hx293_1, hx293_2, hx293_3, hx293_4, hx293_5, hx293_6, hx293_7⟩ := at_T38 HR0.out x3_1 p293 q293
              have hw293_7 := hx293_7
              have hw293_6 := hx293_6
              have hw293_5 := hx293_5
              have hw293_4 := hx293_4
              have hw293_3 := hx293_3
              have hw293_2 := hx293_2
              have hw293_1 := hx293_1
              have hw293_0 := hx293_0
              cases e293
              replace hx293_0 := pw_cell_below HB.out hx293_0
              replace hx293_1 := pw_cell_below HB.out hx293_1
              replace hx293_2 := pw_cell_below HB.out hx293_2
              replace hx293_3 := pw_cell_below HB.out hx293_3
              replace hx293_4 := pw_cell_below HB.out hx293_4
              replace hx293_5 := pw_cell_below HB.out hx293_5
              replace hx293_6 := pw_cell_below HB.out hx293_6
              replace hx293_7 := pw_cell_below HB.out hx293_7
              replace p293 := eq_true p293
              replace q293 := eq_true q293
              have p294 : 0 ≤ (x4_2 : Int) := of_decide_eq_true (by with_reducible assumption)
              have q294 : x4_2 < (l0.length : Int) := of_decide_eq_true (by with_reducible assumption)
              obtain ⟨ad294, e294, hx294_0, hx294_1, hx294_2, hx294_3, hx294_4, hx294_5, hx294_6, hx294_7⟩ := at_T38 HR0.out x4_2 p294 q294
              have hw294_7 := hx294_7
              have hw294_6 := hx294_6
              have hw294_5 := hx294_5
              have hw294_4 := hx294_4
              have hw294_3 := hx294_3
              have hw294_2 := hx294_2
              have hw294_1 := hx294_1
              have hw294_0 := hx294_0
              obtain rfl : ad293 = ad294 := (by injection e294)
              replace hx294_0 := pw_cell_below HB.out hx294_0
              replace hx294_1 := pw_cell_below HB.out hx294_1
              replace hx294_2 := pw_cell_below HB.out hx294_2
              replace hx294_3 := pw_cell_below HB.out hx294_3
              replace hx294_4 := pw_cell_below HB.out hx294_4
              replace hx294_5 := pw_cell_below HB.out hx294_5
              replace hx294_6 := pw_cell_below HB.out hx294_6
              replace hx294_7 := pw_cell_below HB.out hx294_7
              replace p294 := eq_true p294
              replace q294 := eq_true q294
              have p295 : 0 ≤ (x3_1 : Int) := of_decide_eq_true (by with_reducible assumption)
              have q295 : x3_1 < (l0.length : Int) := of_decide_eq_true (by with_reducible assumption)
              obtain ⟨ad295, e295, hx295_0, hx295_1, hx295_2, hx295_3, hx295_4, hx295_5, hx295_6, hx295_7⟩ := at_T38 HR0.out x3_1 p295 q295
              have hw295_7 := hx295_7
              have hw295_6 := hx295_6
              have hw295_5 := hx295_5
              have hw295_4 := hx295_4
              have hw295_3 := hx295_3
              have hw295_2 := hx295_2
              have hw295_1 := hx295_1
              have hw295_0 := hx295_0
              obtain rfl : ad293 = ad295 := (by injection e295)
              replace hx295_0 := pw_cell_below HB.out hx295_0
              replace hx295_1 := pw_cell_below HB.out hx295_1
              replace hx295_2 := pw_cell_below HB.out hx295_2
              replace hx295_3 := pw_cell_below HB.out hx295_3
              replace hx295_4 := pw_cell_below HB.out hx295_4
              replace hx295_5 := pw_cell_below HB.out hx295_5
              replace hx295_6 := pw_cell_below HB.out hx295_6
              replace hx295_7 := pw_cell_below HB.out hx295_7
              replace p295 := eq_true p295
              replace q295 := eq_true q295
              refine start_ (n := 30) (S := fun w' => w'.cell? (ad293.add ((x3_1).toNat * 8)) = some (.int .i64 ((rd_T38 l0 x3_1).f0)) ∧ w'.cell? ⟨(ad293.add ((x3_1).toNat * 8)).block, (ad293.add ((x3_1).toNat * 8)).off + 1, none⟩ = some (.int .i64 ((rd_T38 l0 x3_1).f1)) ∧ w'.cell? ⟨(ad293.add ((x3_1).toNat * 8)).block, (ad293.add ((x3_1).toNat * 8)).off + 2, none⟩ = some (.bool ((rd_T38 l0 x3_1).f2.f0)) ∧ w'.cell? ⟨(ad293.add ((x3_1).toNat * 8)).block, (ad293.add ((x3_1).toNat * 8)).off + 3, none⟩ = some (.int .i64 ((rd_T38 l0 x3_1).f2.f1)) ∧ w'.cell? ⟨(ad293.add ((x3_1).toNat * 8)).block, (ad293.add ((x3_1).toNat * 8)).off + 4, none⟩ = some (.string ((rd_T38 l0 x3_1).f2.f2)) ∧ w'.cell? ⟨(ad293.add ((x3_1).toNat * 8)).block, (ad293.add ((x3_1).toNat * 8)).off + 5, none⟩ = some (.bool ((rd_T38 l0 x3_1).f3.f0)) ∧ w'.cell? ⟨(ad293.add ((x3_1).toNat * 8)).block, (ad293.add ((x3_1).toNat * 8)).off + 6, none⟩ = some (.int .i64 ((rd_T38 l0 x3_1).f3.f1)) ∧ w'.cell? ⟨(ad293.add ((x3_1).toNat * 8)).block, (ad293.add ((x3_1).toNat * 8)).off + 7, none⟩ = some (.string ((rd_T38 l0 x3_1).f3.f2)) ∧ w'.cell? (ad293.add ((x4_2).toNat * 8)) = some (.int .i64 ((rd_T38 l0 x4_2).f0)) ∧ w'.cell? ⟨(ad293.add ((x4_2).toNat * 8)).block, (ad293.add ((x4_2).toNat * 8)).off + 1, none⟩ = some (.int .i64 ((rd_T38 l0 x4_2).f1)) ∧ w'.cell? ⟨(ad293.add ((x4_2).toNat * 8)).block, (ad293.add ((x4_2).toNat * 8)).off + 2, none⟩ = some (.bool ((rd_T38 l0 x4_2).f2.f0)) ∧ w'.cell? ⟨(ad293.add ((x4_2).toNat * 8)).block, (ad293.add ((x4_2).toNat * 8)).off + 3, none⟩ = some (.int .i64 ((rd_T38 l0 x4_2).f2.f1)) ∧ w'.cell? ⟨(ad293.add ((x4_2).toNat * 8)).block, (ad293.add ((x4_2).toNat * 8)).off + 4, none⟩ = some (.string ((rd_T38 l0 x4_2).f2.f2)) ∧ w'.cell? ⟨(ad293.add ((x4_2).toNat * 8)).block, (ad293.add ((x4_2).toNat * 8)).off + 5, none⟩ = some (.bool ((rd_T38 l0 x4_2).f3.f0)) ∧ w'.cell? ⟨(ad293.add ((x4_2).toNat * 8)).block, (ad293.add ((x4_2).toNat * 8)).off + 6, none⟩ = some (.int .i64 ((rd_T38 l0 x4_2).f3.f1)) ∧ w'.cell? ⟨(ad293.add ((x4_2).toNat * 8)).block, (ad293.add ((x4_2).toNat * 8)).off + 7, none⟩ = some (.string ((rd_T38 l0 x4_2).f3.f2)) ∧ w'.cell? (ad293.add ((x3_1).toNat * 8)) = some (.int .i64 ((rd_T38 l0 x3_1).f0)) ∧ w'.cell? ⟨(ad293.add ((x3_1).toNat * 8)).block, (ad293.add ((x3_1).toNat * 8)).off + 1, none⟩ = some (.int .i64 ((rd_T38 l0 x3_1).f1)) ∧ w'.cell? ⟨(ad293.add ((x3_1).toNat * 8)).block, (ad293.add ((x3_1).toNat * 8)).off + 2, none⟩ = some (.bool ((rd_T38 l0 x3_1).f2.f0)) ∧ w'.cell? ⟨(ad293.add ((x3_1).toNat * 8)).block, (ad293.add ((x3_1).toNat * 8)).off + 3, none⟩ = some (.int .i64 ((rd_T38 l0 x3_1).f2.f1)) ∧ w'.cell? ⟨(ad293.add ((x3_1).toNat * 8)).block, (ad293.add ((x3_1).toNat * 8)).off + 4, none⟩ = some (.string ((rd_T38 l0 x3_1).f2.f2)) ∧ w'.cell? ⟨(ad293.add ((x3_1).toNat * 8)).block, (ad293.add ((x3_1).toNat * 8)).off + 5, none⟩ = some (.bool ((rd_T38 l0 x3_1).f3.f0)) ∧ w'.cell? ⟨(ad293.add ((x3_1).toNat * 8)).block, (ad293.add ((x3_1).toNat * 8)).off + 6, none⟩ = some (.int .i64 ((rd_T38 l0 x3_1).f3.f1)) ∧ w'.cell? ⟨(ad293.add ((x3_1).toNat * 8)).block, (ad293.add ((x3_1).toNat * 8)).off + 7, none⟩ = some (.string ((rd_T38 l0 x3_1).f3.f2))) (ds := []) #[false, false, false, false, false, false, false, false, false, false, false, false, false, false, false, false, false, false, false, false, false, false, false, false, false, false, false, false, false, false] (by kernel_rfl) rfl rfl ⟨(pw_cell_below HB.out hw293_0), (pw_cell_below HB.out hw293_1), (pw_cell_below HB.out hw293_2), (pw_cell_below HB.out hw293_3), (pw_cell_below HB.out hw293_4), (pw_cell_below HB.out hw293_5), (pw_cell_below HB.out hw293_6), (pw_cell_below HB.out hw293_7), (pw_cell_below HB.out hw294_0), (pw_cell_below HB.out hw294_1), (pw_cell_below HB.out hw294_2), (pw_cell_below HB.out hw294_3), (pw_cell_below HB.out hw294_4), (pw_cell_below HB.out hw294_5), (pw_cell_below HB.out hw294_6), (pw_cell_below HB.out hw294_7), (pw_cell_below HB.out hw295_0), (pw_cell_below HB.out hw295_1), (pw_cell_below HB.out hw295_2), (pw_cell_below HB.out hw295_3), (pw_cell_below HB.out hw295_4), (pw_cell_below HB.out hw295_5), (pw_cell_below HB.out hw295_6), (pw_cell_below HB.out hw295_7)⟩ (fun hHeld => ?_); refine with_tabW tithebarnref17_Disjoint.tab7 tithebarnref17_Disjoint.bits7 (fun HT_ HW_ => ?_)
              generalize wr.drew = w11 at HB hx293_0 hx293_1 hx293_2 hx293_3 hx293_4 hx293_5 hx293_6 hx293_7 hx294_0 hx294_1 hx294_2 hx294_3 hx294_4 hx294_5 hx294_6 hx294_7 hx295_0 hx295_1 hx295_2 hx295_3 hx295_4 hx295_5 hx295_6 hx295_7 hHeld ⊢
              refine pure_ (i := 0) (N := some 16) (v := ?_) (a' := ?_) #[true, false, false, false, false, false, false, false, false, false, false, false, false, false, false, false, false, false, false, false, false, false, false, false, false, false, false, false, false, false] rfl rfl (any_of HT_.out (by kernel_rfl)) (fun _ _ _ h => h) (Or.inl ⟨by rfl, ?_⟩) ?_ ?_
              rotate_left
              ·intro w'
               go_simp
               with_reducible rfl
              rotate_left
              ·simp only [Act.put, List.setIfInBounds_toArray, List.set_cons_zero, List.set_cons_succ, i64_w, i32_w]
               rfl
              refine pure_ (i := 1) (N := some 17) (v := ?_) (a' := ?_) #[true, true, false, false, false, false, false, false, false, false, false, false, false, false, false, false, false, false, false, false, false, false, false, false, false, false, false, false, false, false] rfl rfl (any_of HT_.out (by kernel_rfl)) (fun _ _ _ h => h) (Or.inl ⟨by rfl, ?_⟩) ?_ ?_
              rotate_left
              ·intro w'
               go_simp
               with_reducible rfl
              rotate_left
              ·simp only [Act.put, List.setIfInBounds_toArray, List.set_cons_zero, List.set_cons_succ, i64_w, i32_w]
               rfl
              refine pure_ (i := 2) (N := some 18) (v := ?_) (a' := ?_) #[true, true, true, false, false, false, false, false, false, false, false, false, false, false, false, false, false, false, false, false, false, false, false, false, false, false, false, false, false, false] rfl rfl (any_of HT_.out (by kernel_rfl)) (fun _ _ _ h => h) (Or.inl ⟨by rfl, ?_⟩) ?_ ?_
              rotate_left
              ·intro w'
               go_simp
               with_reducible rfl
              rotate_left
              ·simp only [Act.put, List.setIfInBounds_toArray, List.set_cons_zero, List.set_cons_succ, i64_w, i32_w]
               rfl
              refine pure_ (i := 3) (N := some 19) (v := ?_) (a' := ?_) #[true, true, true, true, false, false, false, false, false, false, false, false, false, false, false, false, false, false, false, false, false, false, false, false, false, false, false, false, false, false] rfl rfl (any_of HT_.out (by kernel_rfl)) (fun _ _ _ h => h) (Or.inl ⟨by rfl, ?_⟩) ?_ ?_
              rotate_left
              ·intro w'
               go_simp
               with_reducible rfl
              rotate_left
              ·simp only [Act.put, List.setIfInBounds_toArray, List.set_cons_zero, List.set_cons_succ, i64_w, i32_w]
               rfl
              refine pure_ (i := 5) (N := some 21) (v := ?_) (a' := ?_) #[true, true, true, true, false, true, false, false, false, false, false, false, false, false, false, false, false, false, false, false, false, false, false, false, false, false, false, false, false, false] rfl rfl (any_of HT_.out (by kernel_rfl)) (fun _ _ _ h => h) (Or.inl ⟨by rfl, ?_⟩) ?_ ?_
              rotate_left
              ·intro w'
               go_simp
               with_reducible rfl
              rotate_left
              ·simp only [Act.put, List.setIfInBounds_toArray, List.set_cons_zero, List.set_cons_succ, i64_w, i32_w]
               rfl
              refine pure_ (i := 6) (N := some 22) (v := ?_) (a' := ?_) #[true, true, true, true, false, true, true, false, false, false, false, false, false, false, false, false, false, false, false, false, false, false, false, false, false, false, false, false, false, false] rfl rfl (any_of HT_.out (by kernel_rfl)) (fun _ _ _ h => h) (Or.inl ⟨by rfl, ?_⟩) ?_ ?_
              rotate_left
              ·intro w'
               go_simp
               with_reducible rfl
              rotate_left
              ·simp only [Act.put, List.setIfInBounds_toArray, List.set_cons_zero, List.set_cons_succ, i64_w, i32_w]
               rfl
              refine pure_ (i := 7) (N := some 23) (v := ?_) (a' := ?_) #[true, true, true, true, false, true, true, true, false, false, false, false, false, false, false, false, false, false, false, false, false, false, false, false, false, false, false, false, false, false] rfl rfl (any_of HT_.out (by kernel_rfl)) (fun _ _ _ h => h) (Or.inl ⟨by rfl, ?_⟩) ?_ ?_
              rotate_left
              ·intro w'
               go_simp
               with_reducible rfl
              rotate_left
              ·simp only [Act.put, List.setIfInBounds_toArray, List.set_cons_zero, List.set_cons_succ, i64_w, i32_w]
               rfl
              refine pure_ (i := 8) (N := some 24) (v := ?_) (a' := ?_) #[true, true, true, true, false, true, true, true, true, false, false, false, false, false, false, false, false, false, false, false, false, false, false, false, false, false, false, false, false, false] rfl rfl (any_of HT_.out (by kernel_rfl)) (fun _ _ _ h => h) (Or.inl ⟨by rfl, ?_⟩) ?_ ?_
              rotate_left
              ·intro w'
               go_simp
               with_reducible rfl
              rotate_left
              ·simp only [Act.put, List.setIfInBounds_toArray, List.set_cons_zero, List.set_cons_succ, i64_w, i32_w]
               rfl
              refine take_ (i := 4) (N := some 20) (v := ?_) (a' := ?_) #[true, true, true, true, true, true, true, true, true, false, false, false, false, false, false, false, false, false, false, false, false, false, false, false, false, false, false, false, false, false] rfl rfl (take_ofW HT_.out HW_.out (by kernel_rfl)) (fun _ _ _ h => h) (Or.inl ⟨by rfl, ?_⟩) hHeld ?_ ?_
              rotate_left
              ·rintro w' ⟨s0, s1, s2, s3, s4, s5, s6, s7, s8, s9, s10, s11, s12, s13, s14, s15, s16, s17, s18, s19, s20, s21, s22, s23⟩
               go_simp
               with_reducible rfl
              rotate_left
              ·simp only [Act.put, List.setIfInBounds_toArray, List.set_cons_zero, List.set_cons_succ, i64_w, i32_w]
               rfl
              refine take_ (i := 9) (N := some 25) (v := ?_) (a' := ?_) #[true, true, true, true, true, true, true, true, true, true, false, false, false, false, false, false, false, false, false, false, false, false, false, false, false, false, false, false, false, false] rfl rfl (take_ofW HT_.out HW_.out (by kernel_rfl)) (fun _ _ _ h => h) (Or.inl ⟨by rfl, ?_⟩) hHeld ?_ ?_
              rotate_left
              ·rintro w' ⟨s0, s1, s2, s3, s4, s5, s6, s7, s8, s9, s10, s11, s12, s13, s14, s15, s16, s17, s18, s19, s20, s21, s22, s23⟩
               go_simp
               with_reducible rfl
              rotate_left
              ·simp only [Act.put, List.setIfInBounds_toArray, List.set_cons_zero, List.set_cons_succ, i64_w, i32_w]
               rfl
              refine pure_ (i := 10) (N := some 26) (v := ?_) (a' := ?_) #[true, true, true, true, true, true, true, true, true, true, true, false, false, false, false, false, false, false, false, false, false, false, false, false, false, false, false, false, false, false] rfl rfl (any_of HT_.out (by kernel_rfl)) (fun _ _ _ h => h) (Or.inl ⟨by rfl, ?_⟩) ?_ ?_
              rotate_left
              ·intro w'
               go_simp
               with_reducible rfl
              rotate_left
              ·simp only [Act.put, List.setIfInBounds_toArray, List.set_cons_zero, List.set_cons_succ, i64_w, i32_w]
               rfl
              refine pure_ (i := 11) (N := some 27) (v := ?_) (a' := ?_) #[true, true, true, true, true, true, true, true, true, true, true, true, false, false, false, false, false, false, false, false, false, false, false, false, false, false, false, false, false, false] rfl rfl (any_of HT_.out (by kernel_rfl)) (fun _ _ _ h => h) (Or.inl ⟨by rfl, ?_⟩) ?_ ?_
              rotate_left
              ·intro w'
               go_simp
               with_reducible rfl
              rotate_left
              ·simp only [Act.put, List.setIfInBounds_toArray, List.set_cons_zero, List.set_cons_succ, i64_w, i32_w]
               rfl
              refine pure_ (i := 12) (N := some 28) (v := ?_) (a' := ?_) #[true, true, true, true, true, true, true, true, true, true, true, true, true, false, false, false, false, false, false, false, false, false, false, false, false, false, false, false, false, false] rfl rfl (any_of HT_.out (by kernel_rfl)) (fun _ _ _ h => h) (Or.inl ⟨by rfl, ?_⟩) ?_ ?_
              rotate_left
              ·intro w'
               go_simp
               with_reducible rfl
              rotate_left
              ·simp only [Act.put, List.setIfInBounds_toArray, List.set_cons_zero, List.set_cons_succ, i64_w, i32_w]
               rfl
              refine pure_ (i := 13) (N := some 29) (v := ?_) (a' := ?_) #[true, true, true, true, true, true, true, true, true, true, true, true, true, true, false, false, false, false, false, false, false, false, false, false, false, false, false, false, false, false] rfl rfl (any_of HT_.out (by kernel_rfl)) (fun _ _ _ h => h) (Or.inl ⟨by rfl, ?_⟩) ?_ ?_
              rotate_left
              ·intro w'
               go_simp
               with_reducible rfl
              rotate_left
              ·simp only [Act.put, List.setIfInBounds_toArray, List.set_cons_zero, List.set_cons_succ, i64_w, i32_w]
               rfl
              refine pure_ (i := 14) (N := some 30) (v := ?_) (a' := ?_) #[true, true, true, true, true, true, true, true, true, true, true, true, true, true, true, false, false, false, false, false, false, false, false, false, false, false, false, false, false, false] rfl rfl (any_of HT_.out (by kernel_rfl)) (fun _ _ _ h => h) (Or.inl ⟨by rfl, ?_⟩) ?_ ?_
              rotate_left
              ·intro w'
               go_simp
               with_reducible rfl
              rotate_left
              ·simp only [Act.put, List.setIfInBounds_toArray, List.set_cons_zero, List.set_cons_succ, i64_w, i32_w]
               rfl
              refine pure_ (i := 15) (N := some 31) (v := ?_) (a' := ?_) #[true, true, true, true, true, true, true, true, true, true, true, true, true, true, true, true, false, false, false, false, false, false, false, false, false, false, false, false, false, false] rfl rfl (any_of HT_.out (by kernel_rfl)) (fun _ _ _ h => h) (Or.inl ⟨by rfl, ?_⟩) ?_ ?_
              rotate_left
              ·intro w'
               go_simp
               with_reducible rfl
              rotate_left
              ·simp only [Act.put, List.setIfInBounds_toArray, List.set_cons_zero, List.set_cons_succ, i64_w, i32_w]
               rfl
              refine take_ (i := 16) (N := some 32) (v := ?_) (a' := ?_) #[true, true, true, true, true, true, true, true, true, true, true, true, true, true, true, true, true, false, false, false, false, false, false, false, false, false, false, false, false, false] rfl rfl (take_ofW HT_.out HW_.out (by kernel_rfl)) (fun _ _ _ h => h) (Or.inl ⟨by rfl, ?_⟩) hHeld ?_ ?_
              rotate_left
              ·rintro w' ⟨s0, s1, s2, s3, s4, s5, s6, s7, s8, s9, s10, s11, s12, s13, s14, s15, s16, s17, s18, s19, s20, s21, s22, s23⟩
               go_simp
               with_reducible rfl
              rotate_left
              ·simp only [Act.put, List.setIfInBounds_toArray, List.set_cons_zero, List.set_cons_succ, i64_w, i32_w]
               rfl
              refine pure_ (i := 17) (N := some 33) (v := ?_) (a' := ?_) #[true, true, true, true, true, true, true, true, true, true, true, true, true, true, true, true, true, true, false, false, false, false, false, false, false, false, false, false, false, false] rfl rfl (any_of HT_.out (by kernel_rfl)) (fun _ _ _ h => h) (Or.inl ⟨by rfl, ?_⟩) ?_ ?_
              rotate_left
              ·intro w'
               go_simp
               with_reducible rfl
              rotate_left
              ·simp only [Act.put, List.setIfInBounds_toArray, List.set_cons_zero, List.set_cons_succ, i64_w, i32_w]
               rfl
              refine pure_ (i := 18) (N := some 34) (v := ?_) (a' := ?_) #[true, true, true, true, true, true, true, true, true, true, true, true, true, true, true, true, true, true, true, false, false, false, false, false, false, false, false, false, false, false] rfl rfl (any_of HT_.out (by kernel_rfl)) (fun _ _ _ h => h) (Or.inl ⟨by rfl, ?_⟩) ?_ ?_
              rotate_left
              ·intro w'
               go_simp
               with_reducible rfl
              rotate_left
              ·simp only [Act.put, List.setIfInBounds_toArray, List.set_cons_zero, List.set_cons_succ, i64_w, i32_w]
               rfl
              refine pure_ (i := 19) (N := some 35) (v := ?_) (a' := ?_) #[true, true, true, true, true, true, true, true, true, true, true, true, true, true, true, true, true, true, true, true, false, false, false, false, false, false, false, false, false, false] rfl rfl (any_of HT_.out (by kernel_rfl)) (fun _ _ _ h => h) (Or.inl ⟨by rfl, ?_⟩) ?_ ?_
              rotate_left
              ·intro w'
               go_simp
               with_reducible rfl
              rotate_left
              ·simp only [Act.put, List.setIfInBounds_toArray, List.set_cons_zero, List.set_cons_succ, i64_w, i32_w]
               rfl
              refine pure_ (i := 20) (N := some 36) (v := undef) (a' := ?_) #[true, true, true, true, true, true, true, true, true, true, true, true, true, true, true, true, true, true, true, true, true, false, false, false, false, false, false, false, false, false] rfl rfl (any_of HT_.out (by kernel_rfl)) (fun _ _ _ h => h) (Or.inr ⟨by rfl, rfl⟩) ?_ ?_
              rotate_left
              ·simp only [Act.put, List.setIfInBounds_toArray, List.set_cons_zero, List.set_cons_succ, i64_w, i32_w]
               rfl
              refine pure_ (i := 21) (N := some 37) (v := undef) (a' := ?_) #[true, true, true, true, true, true, true, true, true, true, true, true, true, true, true, true, true, true, true, true, true, true, false, false, false, false, false, false, false, false] rfl rfl (any_of HT_.out (by kernel_rfl)) (fun _ _ _ h => h) (Or.inr ⟨by rfl, rfl⟩) ?_ ?_
              rotate_left
              ·simp only [Act.put, List.setIfInBounds_toArray, List.set_cons_zero, List.set_cons_succ, i64_w, i32_w]
               rfl
              refine pure_ (i := 22) (N := some 38) (v := undef) (a' := ?_) #[true, true, true, true, true, true, true, true, true, true, true, true, true, true, true, true, true, true, true, true, true, true, true, false, false, false, false, false, false, false] rfl rfl (any_of HT_.out (by kernel_rfl)) (fun _ _ _ h => h) (Or.inr ⟨by rfl, rfl⟩) ?_ ?_
              rotate_left
              ·simp only [Act.put, List.setIfInBounds_toArray, List.set_cons_zero, List.set_cons_succ, i64_w, i32_w]
               rfl
              refine pure_ (i := 23) (N := some 39) (v := undef) (a' := ?_) #[true, true, true, true, true, true, true, true, true, true, true, true, true, true, true, true, true, true, true, true, true, true, true, true, false, false, false, false, false, false] rfl rfl (any_of HT_.out (by kernel_rfl)) (fun _ _ _ h => h) (Or.inr ⟨by rfl, rfl⟩) ?_ ?_
              rotate_left
              ·simp only [Act.put, List.setIfInBounds_toArray, List.set_cons_zero, List.set_cons_succ, i64_w, i32_w]
               rfl
              refine pure_ (i := 24) (N := some 40) (v := undef) (a' := ?_) #[true, true, true, true, true, true, true, true, true, true, true, true, true, true, true, true, true, true, true, true, true, true, true, true, true, false, false, false, false, false] rfl rfl (any_of HT_.out (by kernel_rfl)) (fun _ _ _ h => h) (Or.inr ⟨by rfl, rfl⟩) ?_ ?_
              rotate_left
              ·simp only [Act.put, List.setIfInBounds_toArray, List.set_cons_zero, List.set_cons_succ, i64_w, i32_w]
               rfl
              refine pure_ (i := 25) (N := some 41) (v := undef) (a' := ?_) #[true, true, true, true, true, true, true, true, true, true, true, true, true, true, true, true, true, true, true, true, true, true, true, true, true, true, false, false, false, false] rfl rfl (any_of HT_.out (by kernel_rfl)) (fun _ _ _ h => h) (Or.inr ⟨by rfl, rfl⟩) ?_ ?_
              rotate_left
              ·simp only [Act.put, List.setIfInBounds_toArray, List.set_cons_zero, List.set_cons_succ, i64_w, i32_w]
               rfl
              refine pure_ (i := 26) (N := some 42) (v := undef) (a' := ?_) #[true, true, true, true, true, true, true, true, true, true, true, true, true, true, true, true, true, true, true, true, true, true, true, true, true, true, true, false, false, false] rfl rfl (any_of HT_.out (by kernel_rfl)) (fun _ _ _ h => h) (Or.inr ⟨by rfl, rfl⟩) ?_ ?_
              rotate_left
              ·simp only [Act.put, List.setIfInBounds_toArray, List.set_cons_zero, List.set_cons_succ, i64_w, i32_w]
               rfl
              refine pure_ (i := 27) (N := some 43) (v := undef) (a' := ?_) #[true, true, true, true, true, true, true, true, true, true, true, true, true, true, true, true, true, true, true, true, true, true, true, true, true, true, true, true, false, false] rfl rfl (any_of HT_.out (by kernel_rfl)) (fun _ _ _ h => h) (Or.inr ⟨by rfl, rfl⟩) ?_ ?_
              rotate_left
              ·simp only [Act.put, List.setIfInBounds_toArray, List.set_cons_zero, List.set_cons_succ, i64_w, i32_w]
               rfl
              refine pure_ (i := 28) (N := some 44) (v := undef) (a' := ?_) #[true, true, true, true, true, true, true, true, true, true, true, true, true, true, true, true, true, true, true, true, true, true, true, true, true, true, true, true, true, false] rfl rfl (any_of HT_.out (by kernel_rfl)) (fun _ _ _ h => h) (Or.inr ⟨by rfl, rfl⟩) ?_ ?_
              rotate_left
              ·simp only [Act.put, List.setIfInBounds_toArray, List.set_cons_zero, List.set_cons_succ, i64_w, i32_w]
               rfl
              refine pure_ (i := 29) (N := some 45) (v := ?_) (a' := ?_) #[true, true, true, true, true, true, true, true, true, true, true, true, true, true, true, true, true, true, true, true, true, true, true, true, true, true, true, true, true, true] rfl rfl (any_of HT_.out (by kernel_rfl)) (fun _ _ _ h => h) (Or.inl ⟨by rfl, ?_⟩) ?_ ?_
              rotate_left
              ·intro w'
               go_simp
               with_reducible rfl
              rotate_left
              ·simp only [Act.put, List.setIfInBounds_toArray, List.set_cons_zero, List.set_cons_succ, i64_w, i32_w]
               rfl
              refine done_ (done_of HT_.out (by kernel_rfl)) ?_
              try go_wp2
              go_meet
              case rel => exact ⟨_, (false), (by first | rfl | (simp; done) | (simp [*]; done)), H', ⟨by have := HK1.out; have := HK2.out; first | omega | exact Nat.le_refl _⟩, ⟨by repeat (first | (with_reducible first | exact HB.out | apply below_alloc | apply pw_below_drewN | apply below_drew1) | exact HB.out)⟩⟩
             ·rw [if_neg c10] at H
              have c10b0 : (((rd_T38 l0 x3_1).f1) == 0) = false := beq_eq_false_iff_ne.mpr c10
              have c10b1 : (((rd_T38 l0 x3_1).f1) != 0) = true := bne_iff_ne.mpr c10
              replace H := Option.bind_eq_some_iff.mp H
              obtain ⟨t298, A120, H⟩ := H
              replace H : (tithebarnref17_Disjoint.j2 k2 l0 x3_1 x4_2 t298) = some r := H
              have A12 := Aside0.mk A120
              clear A120
              have H' := Aside0.mk H
              clear H
              try go_wp2
              have n0_ := Aside0.mk (below_drew1 HB.out)
              clear HB
              have HB := n0_
              clear n0_
              have p293 : 0 ≤ (x3_1 : Int) := of_decide_eq_true (by with_reducible assumption)
              have q293 : x3_1 < (l0.length : Int) := of_decide_eq_true (by with_reducible assumption)
              obtain ⟨ad293, e293, hx293_0, hx293_1, hx293_2, hx293_3, hx293_4, hx293_5, hx293_6, hx293_7⟩ := at_T38 HR0.out x3_1 p293 q293
              have hw293_7 := hx293_7
              have hw293_6 := hx293_6
              have hw293_5 := hx293_5
              have hw293_4 := hx293_4
              have hw293_3 := hx293_3
              have hw293_2 := hx293_2
              have hw293_1 := hx293_1
              have hw293_0 := hx293_0
              cases e293
              replace hx293_0 := pw_cell_below HB.out hx293_0
              replace hx293_1 := pw_cell_below HB.out hx293_1
              replace hx293_2 := pw_cell_below HB.out hx293_2
              replace hx293_3 := pw_cell_below HB.out hx293_3
              replace hx293_4 := pw_cell_below HB.out hx293_4
              replace hx293_5 := pw_cell_below HB.out hx293_5
              replace hx293_6 := pw_cell_below HB.out hx293_6
              replace hx293_7 := pw_cell_below HB.out hx293_7
              replace p293 := eq_true p293
              replace q293 := eq_true q293
              have p294 : 0 ≤ (x4_2 : Int) := of_decide_eq_true (by with_reducible assumption)
              have q294 : x4_2 < (l0.length : Int) := of_decide_eq_true (by with_reducible assumption)
              obtain ⟨ad294, e294, hx294_0, hx294_1, hx294_2, hx294_3, hx294_4, hx294_5, hx294_6, hx294_7⟩ := at_T38 HR0.out x4_2 p294 q294
              have hw294_7 := hx294_7
              have hw294_6 := hx294_6
              have hw294_5 := hx294_5
              have hw294_4 := hx294_4
              have hw294_3 := hx294_3
              have hw294_2 := hx294_2
              have hw294_1 := hx294_1
              have hw294_0 := hx294_0
              obtain rfl : ad293 = ad294 := (by injection e294)
              replace hx294_0 := pw_cell_below HB.out hx294_0
              replace hx294_1 := pw_cell_below HB.out hx294_1
              replace hx294_2 := pw_cell_below HB.out hx294_2
              replace hx294_3 := pw_cell_below HB.out hx294_3
              replace hx294_4 := pw_cell_below HB.out hx294_4
              replace hx294_5 := pw_cell_below HB.out hx294_5
              replace hx294_6 := pw_cell_below HB.out hx294_6
              replace hx294_7 := pw_cell_below HB.out hx294_7
              replace p294 := eq_true p294
              replace q294 := eq_true q294
              have p295 : 0 ≤ (x3_1 : Int) := of_decide_eq_true (by with_reducible assumption)
              have q295 : x3_1 < (l0.length : Int) := of_decide_eq_true (by with_reducible assumption)
              obtain ⟨ad295, e295, hx295_0, hx295_1, hx295_2, hx295_3, hx295_4, hx295_5, hx295_6, hx295_7⟩ := at_T38 HR0.out x3_1 p295 q295
              have hw295_7 := hx295_7
              have hw295_6 := hx295_6
              have hw295_5 := hx295_5
              have hw295_4 := hx295_4
              have hw295_3 := hx295_3
              have hw295_2 := hx295_2
              have hw295_1 := hx295_1
              have hw295_0 := hx295_0
              obtain rfl : ad293 = ad295 := (by injection e295)
              replace hx295_0 := pw_cell_below HB.out hx295_0
              replace hx295_1 := pw_cell_below HB.out hx295_1
              replace hx295_2 := pw_cell_below HB.out hx295_2
              replace hx295_3 := pw_cell_below HB.out hx295_3
              replace hx295_4 := pw_cell_below HB.out hx295_4
              replace hx295_5 := pw_cell_below HB.out hx295_5
              replace hx295_6 := pw_cell_below HB.out hx295_6
              replace hx295_7 := pw_cell_below HB.out hx295_7
              replace p295 := eq_true p295
              replace q295 := eq_true q295
              have p296 : 0 ≤ (x3_1 : Int) := of_decide_eq_true (by with_reducible assumption)
              have q296 : x3_1 < (l0.length : Int) := of_decide_eq_true (by with_reducible assumption)
              obtain ⟨ad296, e296, hx296_0, hx296_1, hx296_2, hx296_3, hx296_4, hx296_5, hx296_6, hx296_7⟩ := at_T38 HR0.out x3_1 p296 q296
              have hw296_7 := hx296_7
              have hw296_6 := hx296_6
              have hw296_5 := hx296_5
              have hw296_4 := hx296_4
              have hw296_3 := hx296_3
              have hw296_2 := hx296_2
              have hw296_1 := hx296_1
              have hw296_0 := hx296_0
              obtain rfl : ad293 = ad296 := (by injection e296)
              replace hx296_0 := pw_cell_below HB.out hx296_0
              replace hx296_1 := pw_cell_below HB.out hx296_1
              replace hx296_2 := pw_cell_below HB.out hx296_2
              replace hx296_3 := pw_cell_below HB.out hx296_3
              replace hx296_4 := pw_cell_below HB.out hx296_4
              replace hx296_5 := pw_cell_below HB.out hx296_5
              replace hx296_6 := pw_cell_below HB.out hx296_6
              replace hx296_7 := pw_cell_below HB.out hx296_7
              replace p296 := eq_true p296
              replace q296 := eq_true q296
              have p297 : 0 ≤ (x4_2 : Int) := of_decide_eq_true (by with_reducible assumption)
              have q297 : x4_2 < (l0.length : Int) := of_decide_eq_true (by with_reducible assumption)
              obtain ⟨ad297, e297, hx297_0, hx297_1, hx297_2, hx297_3, hx297_4, hx297_5, hx297_6, hx297_7⟩ := at_T38 HR0.out x4_2 p297 q297
              have hw297_7 := hx297_7
              have hw297_6 := hx297_6
              have hw297_5 := hx297_5
              have hw297_4 := hx297_4
              have hw297_3 := hx297_3
              have hw297_2 := hx297_2
              have hw297_1 := hx297_1
              have hw297_0 := hx297_0
              obtain rfl : ad293 = ad297 := (by injection e297)
              replace hx297_0 := pw_cell_below HB.out hx297_0
              replace hx297_1 := pw_cell_below HB.out hx297_1
              replace hx297_2 := pw_cell_below HB.out hx297_2
              replace hx297_3 := pw_cell_below HB.out hx297_3
              replace hx297_4 := pw_cell_below HB.out hx297_4
              replace hx297_5 := pw_cell_below HB.out hx297_5
              replace hx297_6 := pw_cell_below HB.out hx297_6
              replace hx297_7 := pw_cell_below HB.out hx297_7
              replace p297 := eq_true p297
              replace q297 := eq_true q297
              refine start_ (n := 30) (S := fun w' => w'.cell? (ad293.add ((x3_1).toNat * 8)) = some (.int .i64 ((rd_T38 l0 x3_1).f0)) ∧ w'.cell? ⟨(ad293.add ((x3_1).toNat * 8)).block, (ad293.add ((x3_1).toNat * 8)).off + 1, none⟩ = some (.int .i64 ((rd_T38 l0 x3_1).f1)) ∧ w'.cell? ⟨(ad293.add ((x3_1).toNat * 8)).block, (ad293.add ((x3_1).toNat * 8)).off + 2, none⟩ = some (.bool ((rd_T38 l0 x3_1).f2.f0)) ∧ w'.cell? ⟨(ad293.add ((x3_1).toNat * 8)).block, (ad293.add ((x3_1).toNat * 8)).off + 3, none⟩ = some (.int .i64 ((rd_T38 l0 x3_1).f2.f1)) ∧ w'.cell? ⟨(ad293.add ((x3_1).toNat * 8)).block, (ad293.add ((x3_1).toNat * 8)).off + 4, none⟩ = some (.string ((rd_T38 l0 x3_1).f2.f2)) ∧ w'.cell? ⟨(ad293.add ((x3_1).toNat * 8)).block, (ad293.add ((x3_1).toNat * 8)).off + 5, none⟩ = some (.bool ((rd_T38 l0 x3_1).f3.f0)) ∧ w'.cell? ⟨(ad293.add ((x3_1).toNat * 8)).block, (ad293.add ((x3_1).toNat * 8)).off + 6, none⟩ = some (.int .i64 ((rd_T38 l0 x3_1).f3.f1)) ∧ w'.cell? ⟨(ad293.add ((x3_1).toNat * 8)).block, (ad293.add ((x3_1).toNat * 8)).off + 7, none⟩ = some (.string ((rd_T38 l0 x3_1).f3.f2)) ∧ w'.cell? (ad293.add ((x4_2).toNat * 8)) = some (.int .i64 ((rd_T38 l0 x4_2).f0)) ∧ w'.cell? ⟨(ad293.add ((x4_2).toNat * 8)).block, (ad293.add ((x4_2).toNat * 8)).off + 1, none⟩ = some (.int .i64 ((rd_T38 l0 x4_2).f1)) ∧ w'.cell? ⟨(ad293.add ((x4_2).toNat * 8)).block, (ad293.add ((x4_2).toNat * 8)).off + 2, none⟩ = some (.bool ((rd_T38 l0 x4_2).f2.f0)) ∧ w'.cell? ⟨(ad293.add ((x4_2).toNat * 8)).block, (ad293.add ((x4_2).toNat * 8)).off + 3, none⟩ = some (.int .i64 ((rd_T38 l0 x4_2).f2.f1)) ∧ w'.cell? ⟨(ad293.add ((x4_2).toNat * 8)).block, (ad293.add ((x4_2).toNat * 8)).off + 4, none⟩ = some (.string ((rd_T38 l0 x4_2).f2.f2)) ∧ w'.cell? ⟨(ad293.add ((x4_2).toNat * 8)).block, (ad293.add ((x4_2).toNat * 8)).off + 5, none⟩ = some (.bool ((rd_T38 l0 x4_2).f3.f0)) ∧ w'.cell? ⟨(ad293.add ((x4_2).toNat * 8)).block, (ad293.add ((x4_2).toNat * 8)).off + 6, none⟩ = some (.int .i64 ((rd_T38 l0 x4_2).f3.f1)) ∧ w'.cell? ⟨(ad293.add ((x4_2).toNat * 8)).block, (ad293.add ((x4_2).toNat * 8)).off + 7, none⟩ = some (.string ((rd_T38 l0 x4_2).f3.f2)) ∧ w'.cell? (ad293.add ((x3_1).toNat * 8)) = some (.int .i64 ((rd_T38 l0 x3_1).f0)) ∧ w'.cell? ⟨(ad293.add ((x3_1).toNat * 8)).block, (ad293.add ((x3_1).toNat * 8)).off + 1, none⟩ = some (.int .i64 ((rd_T38 l0 x3_1).f1)) ∧ w'.cell? ⟨(ad293.add ((x3_1).toNat * 8)).block, (ad293.add ((x3_1).toNat * 8)).off + 2, none⟩ = some (.bool ((rd_T38 l0 x3_1).f2.f0)) ∧ w'.cell? ⟨(ad293.add ((x3_1).toNat * 8)).block, (ad293.add ((x3_1).toNat * 8)).off + 3, none⟩ = some (.int .i64 ((rd_T38 l0 x3_1).f2.f1)) ∧ w'.cell? ⟨(ad293.add ((x3_1).toNat * 8)).block, (ad293.add ((x3_1).toNat * 8)).off + 4, none⟩ = some (.string ((rd_T38 l0 x3_1).f2.f2)) ∧ w'.cell? ⟨(ad293.add ((x3_1).toNat * 8)).block, (ad293.add ((x3_1).toNat * 8)).off + 5, none⟩ = some (.bool ((rd_T38 l0 x3_1).f3.f0)) ∧ w'.cell? ⟨(ad293.add ((x3_1).toNat * 8)).block, (ad293.add ((x3_1).toNat * 8)).off + 6, none⟩ = some (.int .i64 ((rd_T38 l0 x3_1).f3.f1)) ∧ w'.cell? ⟨(ad293.add ((x3_1).toNat * 8)).block, (ad293.add ((x3_1).toNat * 8)).off + 7, none⟩ = some (.string ((rd_T38 l0 x3_1).f3.f2)) ∧ w'.cell? (ad293.add ((x3_1).toNat * 8)) = some (.int .i64 ((rd_T38 l0 x3_1).f0)) ∧ w'.cell? ⟨(ad293.add ((x3_1).toNat * 8)).block, (ad293.add ((x3_1).toNat * 8)).off + 1, none⟩ = some (.int .i64 ((rd_T38 l0 x3_1).f1)) ∧ w'.cell? ⟨(ad293.add ((x3_1).toNat * 8)).block, (ad293.add ((x3_1).toNat * 8)).off + 2, none⟩ = some (.bool ((rd_T38 l0 x3_1).f2.f0)) ∧ w'.cell? ⟨(ad293.add ((x3_1).toNat * 8)).block, (ad293.add ((x3_1).toNat * 8)).off + 3, none⟩ = some (.int .i64 ((rd_T38 l0 x3_1).f2.f1)) ∧ w'.cell? ⟨(ad293.add ((x3_1).toNat * 8)).block, (ad293.add ((x3_1).toNat * 8)).off + 4, none⟩ = some (.string ((rd_T38 l0 x3_1).f2.f2)) ∧ w'.cell? ⟨(ad293.add ((x3_1).toNat * 8)).block, (ad293.add ((x3_1).toNat * 8)).off + 5, none⟩ = some (.bool ((rd_T38 l0 x3_1).f3.f0)) ∧ w'.cell? ⟨(ad293.add ((x3_1).toNat * 8)).block, (ad293.add ((x3_1).toNat * 8)).off + 6, none⟩ = some (.int .i64 ((rd_T38 l0 x3_1).f3.f1)) ∧ w'.cell? ⟨(ad293.add ((x3_1).toNat * 8)).block, (ad293.add ((x3_1).toNat * 8)).off + 7, none⟩ = some (.string ((rd_T38 l0 x3_1).f3.f2)) ∧ w'.cell? (ad293.add ((x4_2).toNat * 8)) = some (.int .i64 ((rd_T38 l0 x4_2).f0)) ∧ w'.cell? ⟨(ad293.add ((x4_2).toNat * 8)).block, (ad293.add ((x4_2).toNat * 8)).off + 1, none⟩ = some (.int .i64 ((rd_T38 l0 x4_2).f1)) ∧ w'.cell? ⟨(ad293.add ((x4_2).toNat * 8)).block, (ad293.add ((x4_2).toNat * 8)).off + 2, none⟩ = some (.bool ((rd_T38 l0 x4_2).f2.f0)) ∧ w'.cell? ⟨(ad293.add ((x4_2).toNat * 8)).block, (ad293.add ((x4_2).toNat * 8)).off + 3, none⟩ = some (.int .i64 ((rd_T38 l0 x4_2).f2.f1)) ∧ w'.cell? ⟨(ad293.add ((x4_2).toNat * 8)).block, (ad293.add ((x4_2).toNat * 8)).off + 4, none⟩ = some (.string ((rd_T38 l0 x4_2).f2.f2)) ∧ w'.cell? ⟨(ad293.add ((x4_2).toNat * 8)).block, (ad293.add ((x4_2).toNat * 8)).off + 5, none⟩ = some (.bool ((rd_T38 l0 x4_2).f3.f0)) ∧ w'.cell? ⟨(ad293.add ((x4_2).toNat * 8)).block, (ad293.add ((x4_2).toNat * 8)).off + 6, none⟩ = some (.int .i64 ((rd_T38 l0 x4_2).f3.f1)) ∧ w'.cell? ⟨(ad293.add ((x4_2).toNat * 8)).block, (ad293.add ((x4_2).toNat * 8)).off + 7, none⟩ = some (.string ((rd_T38 l0 x4_2).f3.f2))) (ds := []) #[false, false, false, false, false, false, false, false, false, false, false, false, false, false, false, false, false, false, false, false, false, false, false, false, false, false, false, false, false, false] (by kernel_rfl) rfl rfl ⟨(pw_cell_below HB.out hw293_0), (pw_cell_below HB.out hw293_1), (pw_cell_below HB.out hw293_2), (pw_cell_below HB.out hw293_3), (pw_cell_below HB.out hw293_4), (pw_cell_below HB.out hw293_5), (pw_cell_below HB.out hw293_6), (pw_cell_below HB.out hw293_7), (pw_cell_below HB.out hw294_0), (pw_cell_below HB.out hw294_1), (pw_cell_below HB.out hw294_2), (pw_cell_below HB.out hw294_3), (pw_cell_below HB.out hw294_4), (pw_cell_below HB.out hw294_5), (pw_cell_below HB.out hw294_6), (pw_cell_below HB.out hw294_7), (pw_cell_below HB.out hw295_0), (pw_cell_below HB.out hw295_1), (pw_cell_below HB.out hw295_2), (pw_cell_below HB.out hw295_3), (pw_cell_below HB.out hw295_4), (pw_cell_below HB.out hw295_5), (pw_cell_below HB.out hw295_6), (pw_cell_below HB.out hw295_7), (pw_cell_below HB.out hw296_0), (pw_cell_below HB.out hw296_1), (pw_cell_below HB.out hw296_2), (pw_cell_below HB.out hw296_3), (pw_cell_below HB.out hw296_4), (pw_cell_below HB.out hw296_5), (pw_cell_below HB.out hw296_6), (pw_cell_below HB.out hw296_7), (pw_cell_below HB.out hw297_0), (pw_cell_below HB.out hw297_1), (pw_cell_below HB.out hw297_2), (pw_cell_below HB.out hw297_3), (pw_cell_below HB.out hw297_4), (pw_cell_below HB.out hw297_5), (pw_cell_below HB.out hw297_6), (pw_cell_below HB.out hw297_7)⟩ (fun hHeld => ?_); refine with_tabW tithebarnref17_Disjoint.tab7 tithebarnref17_Disjoint.bits7 (fun HT_ HW_ => ?_)
              generalize wr.drew = w13 at HB hx293_0 hx293_1 hx293_2 hx293_3 hx293_4 hx293_5 hx293_6 hx293_7 hx294_0 hx294_1 hx294_2 hx294_3 hx294_4 hx294_5 hx294_6 hx294_7 hx295_0 hx295_1 hx295_2 hx295_3 hx295_4 hx295_5 hx295_6 hx295_7 hx296_0 hx296_1 hx296_2 hx296_3 hx296_4 hx296_5 hx296_6 hx296_7 hx297_0 hx297_1 hx297_2 hx297_3 hx297_4 hx297_5 hx297_6 hx297_7 hHeld ⊢
              refine pure_ (i := 0) (N := some 16) (v := ?_) (a' := ?_) #[true, false, false, false, false, false, false, false, false, false, false, false, false, false, false, false, false, false, false, false, false, false, false, false, false, false, false, false, false, false] rfl rfl (any_of HT_.out (by kernel_rfl)) (fun _ _ _ h => h) (Or.inl ⟨by rfl, ?_⟩) ?_ ?_
              rotate_left
              ·intro w'
               go_simp
               with_reducible rfl
              rotate_left
              ·simp only [Act.put, List.setIfInBounds_toArray, List.set_cons_zero, List.set_cons_succ, i64_w, i32_w]
               rfl
              refine pure_ (i := 1) (N := some 17) (v := ?_) (a' := ?_) #[true, true, false, false, false, false, false, false, false, false, false, false, false, false, false, false, false, false, false, false, false, false, false, false, false, false, false, false, false, false] rfl rfl (any_of HT_.out (by kernel_rfl)) (fun _ _ _ h => h) (Or.inl ⟨by rfl, ?_⟩) ?_ ?_
              rotate_left
              ·intro w'
               go_simp
               with_reducible rfl
              rotate_left
              ·simp only [Act.put, List.setIfInBounds_toArray, List.set_cons_zero, List.set_cons_succ, i64_w, i32_w]
               rfl
              refine pure_ (i := 2) (N := some 18) (v := ?_) (a' := ?_) #[true, true, true, false, false, false, false, false, false, false, false, false, false, false, false, false, false, false, false, false, false, false, false, false, false, false, false, false, false, false] rfl rfl (any_of HT_.out (by kernel_rfl)) (fun _ _ _ h => h) (Or.inl ⟨by rfl, ?_⟩) ?_ ?_
              rotate_left
              ·intro w'
               go_simp
               with_reducible rfl
              rotate_left
              ·simp only [Act.put, List.setIfInBounds_toArray, List.set_cons_zero, List.set_cons_succ, i64_w, i32_w]
               rfl
              refine pure_ (i := 3) (N := some 19) (v := ?_) (a' := ?_) #[true, true, true, true, false, false, false, false, false, false, false, false, false, false, false, false, false, false, false, false, false, false, false, false, false, false, false, false, false, false] rfl rfl (any_of HT_.out (by kernel_rfl)) (fun _ _ _ h => h) (Or.inl ⟨by rfl, ?_⟩) ?_ ?_
              rotate_left
              ·intro w'
               go_simp
               with_reducible rfl
              rotate_left
              ·simp only [Act.put, List.setIfInBounds_toArray, List.set_cons_zero, List.set_cons_succ, i64_w, i32_w]
               rfl
              refine pure_ (i := 5) (N := some 21) (v := ?_) (a' := ?_) #[true, true, true, true, false, true, false, false, false, false, false, false, false, false, false, false, false, false, false, false, false, false, false, false, false, false, false, false, false, false] rfl rfl (any_of HT_.out (by kernel_rfl)) (fun _ _ _ h => h) (Or.inl ⟨by rfl, ?_⟩) ?_ ?_
              rotate_left
              ·intro w'
               go_simp
               with_reducible rfl
              rotate_left
              ·simp only [Act.put, List.setIfInBounds_toArray, List.set_cons_zero, List.set_cons_succ, i64_w, i32_w]
               rfl
              refine pure_ (i := 6) (N := some 22) (v := ?_) (a' := ?_) #[true, true, true, true, false, true, true, false, false, false, false, false, false, false, false, false, false, false, false, false, false, false, false, false, false, false, false, false, false, false] rfl rfl (any_of HT_.out (by kernel_rfl)) (fun _ _ _ h => h) (Or.inl ⟨by rfl, ?_⟩) ?_ ?_
              rotate_left
              ·intro w'
               go_simp
               with_reducible rfl
              rotate_left
              ·simp only [Act.put, List.setIfInBounds_toArray, List.set_cons_zero, List.set_cons_succ, i64_w, i32_w]
               rfl
              refine pure_ (i := 7) (N := some 23) (v := ?_) (a' := ?_) #[true, true, true, true, false, true, true, true, false, false, false, false, false, false, false, false, false, false, false, false, false, false, false, false, false, false, false, false, false, false] rfl rfl (any_of HT_.out (by kernel_rfl)) (fun _ _ _ h => h) (Or.inl ⟨by rfl, ?_⟩) ?_ ?_
              rotate_left
              ·intro w'
               go_simp
               with_reducible rfl
              rotate_left
              ·simp only [Act.put, List.setIfInBounds_toArray, List.set_cons_zero, List.set_cons_succ, i64_w, i32_w]
               rfl
              refine pure_ (i := 8) (N := some 24) (v := ?_) (a' := ?_) #[true, true, true, true, false, true, true, true, true, false, false, false, false, false, false, false, false, false, false, false, false, false, false, false, false, false, false, false, false, false] rfl rfl (any_of HT_.out (by kernel_rfl)) (fun _ _ _ h => h) (Or.inl ⟨by rfl, ?_⟩) ?_ ?_
              rotate_left
              ·intro w'
               go_simp
               with_reducible rfl
              rotate_left
              ·simp only [Act.put, List.setIfInBounds_toArray, List.set_cons_zero, List.set_cons_succ, i64_w, i32_w]
               rfl
              refine take_ (i := 4) (N := some 20) (v := ?_) (a' := ?_) #[true, true, true, true, true, true, true, true, true, false, false, false, false, false, false, false, false, false, false, false, false, false, false, false, false, false, false, false, false, false] rfl rfl (take_ofW HT_.out HW_.out (by kernel_rfl)) (fun _ _ _ h => h) (Or.inl ⟨by rfl, ?_⟩) hHeld ?_ ?_
              rotate_left
              ·rintro w' ⟨s0, s1, s2, s3, s4, s5, s6, s7, s8, s9, s10, s11, s12, s13, s14, s15, s16, s17, s18, s19, s20, s21, s22, s23, s24, s25, s26, s27, s28, s29, s30, s31, s32, s33, s34, s35, s36, s37, s38, s39⟩
               go_simp
               with_reducible rfl
              rotate_left
              ·simp only [Act.put, List.setIfInBounds_toArray, List.set_cons_zero, List.set_cons_succ, i64_w, i32_w]
               rfl
              refine take_ (i := 9) (N := some 25) (v := ?_) (a' := ?_) #[true, true, true, true, true, true, true, true, true, true, false, false, false, false, false, false, false, false, false, false, false, false, false, false, false, false, false, false, false, false] rfl rfl (take_ofW HT_.out HW_.out (by kernel_rfl)) (fun _ _ _ h => h) (Or.inl ⟨by rfl, ?_⟩) hHeld ?_ ?_
              rotate_left
              ·rintro w' ⟨s0, s1, s2, s3, s4, s5, s6, s7, s8, s9, s10, s11, s12, s13, s14, s15, s16, s17, s18, s19, s20, s21, s22, s23, s24, s25, s26, s27, s28, s29, s30, s31, s32, s33, s34, s35, s36, s37, s38, s39⟩
               go_simp
               with_reducible rfl
              rotate_left
              ·simp only [Act.put, List.setIfInBounds_toArray, List.set_cons_zero, List.set_cons_succ, i64_w, i32_w]
               rfl
              refine pure_ (i := 10) (N := some 26) (v := ?_) (a' := ?_) #[true, true, true, true, true, true, true, true, true, true, true, false, false, false, false, false, false, false, false, false, false, false, false, false, false, false, false, false, false, false] rfl rfl (any_of HT_.out (by kernel_rfl)) (fun _ _ _ h => h) (Or.inl ⟨by rfl, ?_⟩) ?_ ?_
              rotate_left
              ·intro w'
               go_simp
               with_reducible rfl
              rotate_left
              ·simp only [Act.put, List.setIfInBounds_toArray, List.set_cons_zero, List.set_cons_succ, i64_w, i32_w]
               rfl
              refine pure_ (i := 11) (N := some 27) (v := ?_) (a' := ?_) #[true, true, true, true, true, true, true, true, true, true, true, true, false, false, false, false, false, false, false, false, false, false, false, false, false, false, false, false, false, false] rfl rfl (any_of HT_.out (by kernel_rfl)) (fun _ _ _ h => h) (Or.inl ⟨by rfl, ?_⟩) ?_ ?_
              rotate_left
              ·intro w'
               go_simp
               with_reducible rfl
              rotate_left
              ·simp only [Act.put, List.setIfInBounds_toArray, List.set_cons_zero, List.set_cons_succ, i64_w, i32_w]
               rfl
              refine pure_ (i := 12) (N := some 28) (v := ?_) (a' := ?_) #[true, true, true, true, true, true, true, true, true, true, true, true, true, false, false, false, false, false, false, false, false, false, false, false, false, false, false, false, false, false] rfl rfl (any_of HT_.out (by kernel_rfl)) (fun _ _ _ h => h) (Or.inl ⟨by rfl, ?_⟩) ?_ ?_
              rotate_left
              ·intro w'
               go_simp
               with_reducible rfl
              rotate_left
              ·simp only [Act.put, List.setIfInBounds_toArray, List.set_cons_zero, List.set_cons_succ, i64_w, i32_w]
               rfl
              refine pure_ (i := 13) (N := some 29) (v := ?_) (a' := ?_) #[true, true, true, true, true, true, true, true, true, true, true, true, true, true, false, false, false, false, false, false, false, false, false, false, false, false, false, false, false, false] rfl rfl (any_of HT_.out (by kernel_rfl)) (fun _ _ _ h => h) (Or.inl ⟨by rfl, ?_⟩) ?_ ?_
              rotate_left
              ·intro w'
               go_simp
               with_reducible rfl
              rotate_left
              ·simp only [Act.put, List.setIfInBounds_toArray, List.set_cons_zero, List.set_cons_succ, i64_w, i32_w]
               rfl
              refine pure_ (i := 14) (N := some 30) (v := ?_) (a' := ?_) #[true, true, true, true, true, true, true, true, true, true, true, true, true, true, true, false, false, false, false, false, false, false, false, false, false, false, false, false, false, false] rfl rfl (any_of HT_.out (by kernel_rfl)) (fun _ _ _ h => h) (Or.inl ⟨by rfl, ?_⟩) ?_ ?_
              rotate_left
              ·intro w'
               go_simp
               with_reducible rfl
              rotate_left
              ·simp only [Act.put, List.setIfInBounds_toArray, List.set_cons_zero, List.set_cons_succ, i64_w, i32_w]
               rfl
              refine pure_ (i := 15) (N := some 31) (v := ?_) (a' := ?_) #[true, true, true, true, true, true, true, true, true, true, true, true, true, true, true, true, false, false, false, false, false, false, false, false, false, false, false, false, false, false] rfl rfl (any_of HT_.out (by kernel_rfl)) (fun _ _ _ h => h) (Or.inl ⟨by rfl, ?_⟩) ?_ ?_
              rotate_left
              ·intro w'
               go_simp
               with_reducible rfl
              rotate_left
              ·simp only [Act.put, List.setIfInBounds_toArray, List.set_cons_zero, List.set_cons_succ, i64_w, i32_w]
               rfl
              refine take_ (i := 16) (N := some 32) (v := ?_) (a' := ?_) #[true, true, true, true, true, true, true, true, true, true, true, true, true, true, true, true, true, false, false, false, false, false, false, false, false, false, false, false, false, false] rfl rfl (take_ofW HT_.out HW_.out (by kernel_rfl)) (fun _ _ _ h => h) (Or.inl ⟨by rfl, ?_⟩) hHeld ?_ ?_
              rotate_left
              ·rintro w' ⟨s0, s1, s2, s3, s4, s5, s6, s7, s8, s9, s10, s11, s12, s13, s14, s15, s16, s17, s18, s19, s20, s21, s22, s23, s24, s25, s26, s27, s28, s29, s30, s31, s32, s33, s34, s35, s36, s37, s38, s39⟩
               go_simp
               with_reducible rfl
              rotate_left
              ·simp only [Act.put, List.setIfInBounds_toArray, List.set_cons_zero, List.set_cons_succ, i64_w, i32_w]
               rfl
              refine pure_ (i := 17) (N := some 33) (v := ?_) (a' := ?_) #[true, true, true, true, true, true, true, true, true, true, true, true, true, true, true, true, true, true, false, false, false, false, false, false, false, false, false, false, false, false] rfl rfl (any_of HT_.out (by kernel_rfl)) (fun _ _ _ h => h) (Or.inl ⟨by rfl, ?_⟩) ?_ ?_
              rotate_left
              ·intro w'
               go_simp
               with_reducible rfl
              rotate_left
              ·simp only [Act.put, List.setIfInBounds_toArray, List.set_cons_zero, List.set_cons_succ, i64_w, i32_w]
               rfl
              refine pure_ (i := 18) (N := some 34) (v := ?_) (a' := ?_) #[true, true, true, true, true, true, true, true, true, true, true, true, true, true, true, true, true, true, true, false, false, false, false, false, false, false, false, false, false, false] rfl rfl (any_of HT_.out (by kernel_rfl)) (fun _ _ _ h => h) (Or.inl ⟨by rfl, ?_⟩) ?_ ?_
              rotate_left
              ·intro w'
               go_simp
               with_reducible rfl
              rotate_left
              ·simp only [Act.put, List.setIfInBounds_toArray, List.set_cons_zero, List.set_cons_succ, i64_w, i32_w]
               rfl
              refine pure_ (i := 19) (N := some 35) (v := ?_) (a' := ?_) #[true, true, true, true, true, true, true, true, true, true, true, true, true, true, true, true, true, true, true, true, false, false, false, false, false, false, false, false, false, false] rfl rfl (any_of HT_.out (by kernel_rfl)) (fun _ _ _ h => h) (Or.inl ⟨by rfl, ?_⟩) ?_ ?_
              rotate_left
              ·intro w'
               go_simp
               with_reducible rfl
              rotate_left
              ·simp only [Act.put, List.setIfInBounds_toArray, List.set_cons_zero, List.set_cons_succ, i64_w, i32_w]
               rfl
              refine pure_ (i := 20) (N := some 36) (v := ?_) (a' := ?_) #[true, true, true, true, true, true, true, true, true, true, true, true, true, true, true, true, true, true, true, true, true, false, false, false, false, false, false, false, false, false] rfl rfl (any_of HT_.out (by kernel_rfl)) (fun _ _ _ h => h) (Or.inl ⟨by rfl, ?_⟩) ?_ ?_
              rotate_left
              ·intro w'
               go_simp
               with_reducible rfl
              rotate_left
              ·simp only [Act.put, List.setIfInBounds_toArray, List.set_cons_zero, List.set_cons_succ, i64_w, i32_w]
               rfl
              refine pure_ (i := 21) (N := some 37) (v := ?_) (a' := ?_) #[true, true, true, true, true, true, true, true, true, true, true, true, true, true, true, true, true, true, true, true, true, true, false, false, false, false, false, false, false, false] rfl rfl (any_of HT_.out (by kernel_rfl)) (fun _ _ _ h => h) (Or.inl ⟨by rfl, ?_⟩) ?_ ?_
              rotate_left
              ·intro w'
               go_simp
               with_reducible rfl
              rotate_left
              ·simp only [Act.put, List.setIfInBounds_toArray, List.set_cons_zero, List.set_cons_succ, i64_w, i32_w]
               rfl
              refine pure_ (i := 22) (N := some 38) (v := ?_) (a' := ?_) #[true, true, true, true, true, true, true, true, true, true, true, true, true, true, true, true, true, true, true, true, true, true, true, false, false, false, false, false, false, false] rfl rfl (any_of HT_.out (by kernel_rfl)) (fun _ _ _ h => h) (Or.inl ⟨by rfl, ?_⟩) ?_ ?_
              rotate_left
              ·intro w'
               go_simp
               with_reducible rfl
              rotate_left
              ·simp only [Act.put, List.setIfInBounds_toArray, List.set_cons_zero, List.set_cons_succ, i64_w, i32_w]
               rfl
              refine pure_ (i := 24) (N := some 40) (v := ?_) (a' := ?_) #[true, true, true, true, true, true, true, true, true, true, true, true, true, true, true, true, true, true, true, true, true, true, true, false, true, false, false, false, false, false] rfl rfl (any_of HT_.out (by kernel_rfl)) (fun _ _ _ h => h) (Or.inl ⟨by rfl, ?_⟩) ?_ ?_
              rotate_left
              ·intro w'
               go_simp
               with_reducible rfl
              rotate_left
              ·simp only [Act.put, List.setIfInBounds_toArray, List.set_cons_zero, List.set_cons_succ, i64_w, i32_w]
               rfl
              refine pure_ (i := 25) (N := some 41) (v := ?_) (a' := ?_) #[true, true, true, true, true, true, true, true, true, true, true, true, true, true, true, true, true, true, true, true, true, true, true, false, true, true, false, false, false, false] rfl rfl (any_of HT_.out (by kernel_rfl)) (fun _ _ _ h => h) (Or.inl ⟨by rfl, ?_⟩) ?_ ?_
              rotate_left
              ·intro w'
               go_simp
               with_reducible rfl
              rotate_left
              ·simp only [Act.put, List.setIfInBounds_toArray, List.set_cons_zero, List.set_cons_succ, i64_w, i32_w]
               rfl
              refine pure_ (i := 26) (N := some 42) (v := ?_) (a' := ?_) #[true, true, true, true, true, true, true, true, true, true, true, true, true, true, true, true, true, true, true, true, true, true, true, false, true, true, true, false, false, false] rfl rfl (any_of HT_.out (by kernel_rfl)) (fun _ _ _ h => h) (Or.inl ⟨by rfl, ?_⟩) ?_ ?_
              rotate_left
              ·intro w'
               go_simp
               with_reducible rfl
              rotate_left
              ·simp only [Act.put, List.setIfInBounds_toArray, List.set_cons_zero, List.set_cons_succ, i64_w, i32_w]
               rfl
              refine take_ (i := 23) (N := some 39) (v := ?_) (a' := ?_) #[true, true, true, true, true, true, true, true, true, true, true, true, true, true, true, true, true, true, true, true, true, true, true, true, true, true, true, false, false, false] rfl rfl (take_ofW HT_.out HW_.out (by kernel_rfl)) (fun _ _ _ h => h) (Or.inl ⟨by rfl, ?_⟩) hHeld ?_ ?_
              rotate_left
              ·rintro w' ⟨s0, s1, s2, s3, s4, s5, s6, s7, s8, s9, s10, s11, s12, s13, s14, s15, s16, s17, s18, s19, s20, s21, s22, s23, s24, s25, s26, s27, s28, s29, s30, s31, s32, s33, s34, s35, s36, s37, s38, s39⟩
               go_simp
               with_reducible rfl
              rotate_left
              ·simp only [Act.put, List.setIfInBounds_toArray, List.set_cons_zero, List.set_cons_succ, i64_w, i32_w]
               rfl
              refine take_ (i := 27) (N := some 43) (v := ?_) (a' := ?_) #[true, true, true, true, true, true, true, true, true, true, true, true, true, true, true, true, true, true, true, true, true, true, true, true, true, true, true, true, false, false] rfl rfl (take_ofW HT_.out HW_.out (by kernel_rfl)) (fun _ _ _ h => h) (Or.inl ⟨by rfl, ?_⟩) hHeld ?_ ?_
              rotate_left
              ·rintro w' ⟨s0, s1, s2, s3, s4, s5, s6, s7, s8, s9, s10, s11, s12, s13, s14, s15, s16, s17, s18, s19, s20, s21, s22, s23, s24, s25, s26, s27, s28, s29, s30, s31, s32, s33, s34, s35, s36, s37, s38, s39⟩
               go_simp
               with_reducible rfl
              rotate_left
              ·simp only [Act.put, List.setIfInBounds_toArray, List.set_cons_zero, List.set_cons_succ, i64_w, i32_w]
               rfl
              refine one_ (i := 28) (N := some 44) #[true, true, true, true, true, true, true, true, true, true, true, true, true, true, true, true, true, true, true, true, true, true, true, true, true, true, true, true, true, false] rfl rfl (one_of HT_.out (by kernel_rfl)) (by decide) (fun K hK => ?_)
              refine goes_ Try.func20 (by kernel_rfl) rfl #[.agg #[.int .i64 ((rd_T38 l0 x3_1).f0), .int .i64 ((rd_T38 l0 x3_1).f1), .bool ((rd_T38 l0 x3_1).f2.f0), .int .i64 ((rd_T38 l0 x3_1).f2.f1), .string ((rd_T38 l0 x3_1).f2.f2), .bool ((rd_T38 l0 x3_1).f3.f0), .int .i64 ((rd_T38 l0 x3_1).f3.f1), .string ((rd_T38 l0 x3_1).f3.f2)], .agg #[.int .i64 ((rd_T38 l0 x4_2).f0), .int .i64 ((rd_T38 l0 x4_2).f1), .bool ((rd_T38 l0 x4_2).f2.f0), .int .i64 ((rd_T38 l0 x4_2).f2.f1), .string ((rd_T38 l0 x4_2).f2.f2), .bool ((rd_T38 l0 x4_2).f3.f0), .int .i64 ((rd_T38 l0 x4_2).f3.f1), .string ((rd_T38 l0 x4_2).f3.f2)]] (by rfl) rfl rfl (by (try simp only [List.map_toArray, List.map_cons, List.map_nil]); first | done | rfl | (simp only [List.length_drop, List.length_take]; rfl)) ?_
              with_reducible refine (tithebarnref17_Overlap.calls ((rd_T38 l0 x3_1).f0) ((rd_T38 l0 x3_1).f1) ((rd_T38 l0 x3_1).f2.f0) ((rd_T38 l0 x3_1).f2.f1) ((rd_T38 l0 x3_1).f2.f2) ((rd_T38 l0 x3_1).f3.f0) ((rd_T38 l0 x3_1).f3.f1) ((rd_T38 l0 x3_1).f3.f2) ((rd_T38 l0 x4_2).f0) ((rd_T38 l0 x4_2).f1) ((rd_T38 l0 x4_2).f2.f0) ((rd_T38 l0 x4_2).f2.f1) ((rd_T38 l0 x4_2).f2.f2) ((rd_T38 l0 x4_2).f3.f0) ((rd_T38 l0 x4_2).f3.f1) ((rd_T38 l0 x4_2).f3.f2) t298 _ A12.out).mono ?_
              rintro e w14 ⟨rfl, hb⟩
              refine ⟨_, rfl, ?_⟩
              have n0_ := Aside0.mk (below_step (by with_reducible repeat first | exact HB.out | apply below_alloc | apply pw_below_drewN | apply below_drew1) hb)
              clear HB
              have HB := n0_
              clear n0_
              (try clear hb)
              (try clear hb2)
              (try clear hk)
              (try clear hi)
              refine hK.out _ _ ⟨(pw_cell_below HB.out hw293_0), (pw_cell_below HB.out hw293_1), (pw_cell_below HB.out hw293_2), (pw_cell_below HB.out hw293_3), (pw_cell_below HB.out hw293_4), (pw_cell_below HB.out hw293_5), (pw_cell_below HB.out hw293_6), (pw_cell_below HB.out hw293_7), (pw_cell_below HB.out hw294_0), (pw_cell_below HB.out hw294_1), (pw_cell_below HB.out hw294_2), (pw_cell_below HB.out hw294_3), (pw_cell_below HB.out hw294_4), (pw_cell_below HB.out hw294_5), (pw_cell_below HB.out hw294_6), (pw_cell_below HB.out hw294_7), (pw_cell_below HB.out hw295_0), (pw_cell_below HB.out hw295_1), (pw_cell_below HB.out hw295_2), (pw_cell_below HB.out hw295_3), (pw_cell_below HB.out hw295_4), (pw_cell_below HB.out hw295_5), (pw_cell_below HB.out hw295_6), (pw_cell_below HB.out hw295_7), (pw_cell_below HB.out hw296_0), (pw_cell_below HB.out hw296_1), (pw_cell_below HB.out hw296_2), (pw_cell_below HB.out hw296_3), (pw_cell_below HB.out hw296_4), (pw_cell_below HB.out hw296_5), (pw_cell_below HB.out hw296_6), (pw_cell_below HB.out hw296_7), (pw_cell_below HB.out hw297_0), (pw_cell_below HB.out hw297_1), (pw_cell_below HB.out hw297_2), (pw_cell_below HB.out hw297_3), (pw_cell_below HB.out hw297_4), (pw_cell_below HB.out hw297_5), (pw_cell_below HB.out hw297_6), (pw_cell_below HB.out hw297_7)⟩ (fun hHeld => ?_)
              clear hK K
              refine norm_ (a' := ?_) ?_ ?_
              rotate_left
              ·show Act.put _ (some 44) _ = _
               simp only [Act.put, List.setIfInBounds_toArray, List.set_cons_zero, List.set_cons_succ, i64_w, i32_w]
               rfl
              refine pure_ (i := 29) (N := some 45) (v := ?_) (a' := ?_) #[true, true, true, true, true, true, true, true, true, true, true, true, true, true, true, true, true, true, true, true, true, true, true, true, true, true, true, true, true, true] rfl rfl (any_of HT_.out (by kernel_rfl)) (fun _ _ _ h => h) (Or.inl ⟨by rfl, ?_⟩) ?_ ?_
              rotate_left
              ·intro w'
               go_simp
               with_reducible rfl
              rotate_left
              ·simp only [Act.put, List.setIfInBounds_toArray, List.set_cons_zero, List.set_cons_succ, i64_w, i32_w]
               rfl
              refine done_ (done_of HT_.out (by kernel_rfl)) ?_
              try go_wp2
              go_meet
              case rel => exact ⟨_, (t298), (by first | rfl | (simp; done) | (simp [*]; done)), H', ⟨by have := HK1.out; have := HK2.out; first | omega | exact Nat.le_refl _⟩, ⟨by repeat (first | (with_reducible first | exact HB.out | apply below_alloc | apply pw_below_drewN | apply below_drew1) | exact HB.out)⟩⟩
            ·rw [if_neg c9] at H
             have c9b0 : (((rd_T38 l0 x3_1).f1) == ((rd_T38 l0 x4_2).f1)) = false := beq_eq_false_iff_ne.mpr c9
             have c9b1 : (((rd_T38 l0 x3_1).f1) != ((rd_T38 l0 x4_2).f1)) = true := bne_iff_ne.mpr c9
             have H' := Aside0.mk H
             clear H
             try go_wp2
             have n0_ := Aside0.mk (below_drew1 HB.out)
             clear HB
             have HB := n0_
             clear n0_
             have p293 : 0 ≤ (x3_1 : Int) := of_decide_eq_true (by with_reducible assumption)
             have q293 : x3_1 < (l0.length : Int) := of_decide_eq_true (by with_reducible assumption)
             obtain ⟨ad293, e293, hx293_0, hx293_1, hx293_2, hx293_3, hx293_4, hx293_5, hx293_6, hx293_7⟩ := at_T38 HR0.out x3_1 p293 q293
             have hw293_7 := hx293_7
             have hw293_6 := hx293_6
             have hw293_5 := hx293_5
             have hw293_4 := hx293_4
             have hw293_3 := hx293_3
             have hw293_2 := hx293_2
             have hw293_1 := hx293_1
             have hw293_0 := hx293_0
             cases e293
             replace hx293_0 := pw_cell_below HB.out hx293_0
             replace hx293_1 := pw_cell_below HB.out hx293_1
             replace hx293_2 := pw_cell_below HB.out hx293_2
             replace hx293_3 := pw_cell_below HB.out hx293_3
             replace hx293_4 := pw_cell_below HB.out hx293_4
             replace hx293_5 := pw_cell_below HB.out hx293_5
             replace hx293_6 := pw_cell_below HB.out hx293_6
             replace hx293_7 := pw_cell_below HB.out hx293_7
             replace p293 := eq_true p293
             replace q293 := eq_true q293
             have p294 : 0 ≤ (x4_2 : Int) := of_decide_eq_true (by with_reducible assumption)
             have q294 : x4_2 < (l0.length : Int) := of_decide_eq_true (by with_reducible assumption)
             obtain ⟨ad294, e294, hx294_0, hx294_1, hx294_2, hx294_3, hx294_4, hx294_5, hx294_6, hx294_7⟩ := at_T38 HR0.out x4_2 p294 q294
             have hw294_7 := hx294_7
             have hw294_6 := hx294_6
             have hw294_5 := hx294_5
             have hw294_4 := hx294_4
             have hw294_3 := hx294_3
             have hw294_2 := hx294_2
             have hw294_1 := hx294_1
             have hw294_0 := hx294_0
             obtain rfl : ad293 = ad294 := (by injection e294)
             replace hx294_0 := pw_cell_below HB.out hx294_0
             replace hx294_1 := pw_cell_below HB.out hx294_1
             replace hx294_2 := pw_cell_below HB.out hx294_2
             replace hx294_3 := pw_cell_below HB.out hx294_3
             replace hx294_4 := pw_cell_below HB.out hx294_4
             replace hx294_5 := pw_cell_below HB.out hx294_5
             replace hx294_6 := pw_cell_below HB.out hx294_6
             replace hx294_7 := pw_cell_below HB.out hx294_7
             replace p294 := eq_true p294
             replace q294 := eq_true q294
             refine start_ (n := 30) (S := fun w' => w'.cell? (ad293.add ((x3_1).toNat * 8)) = some (.int .i64 ((rd_T38 l0 x3_1).f0)) ∧ w'.cell? ⟨(ad293.add ((x3_1).toNat * 8)).block, (ad293.add ((x3_1).toNat * 8)).off + 1, none⟩ = some (.int .i64 ((rd_T38 l0 x3_1).f1)) ∧ w'.cell? ⟨(ad293.add ((x3_1).toNat * 8)).block, (ad293.add ((x3_1).toNat * 8)).off + 2, none⟩ = some (.bool ((rd_T38 l0 x3_1).f2.f0)) ∧ w'.cell? ⟨(ad293.add ((x3_1).toNat * 8)).block, (ad293.add ((x3_1).toNat * 8)).off + 3, none⟩ = some (.int .i64 ((rd_T38 l0 x3_1).f2.f1)) ∧ w'.cell? ⟨(ad293.add ((x3_1).toNat * 8)).block, (ad293.add ((x3_1).toNat * 8)).off + 4, none⟩ = some (.string ((rd_T38 l0 x3_1).f2.f2)) ∧ w'.cell? ⟨(ad293.add ((x3_1).toNat * 8)).block, (ad293.add ((x3_1).toNat * 8)).off + 5, none⟩ = some (.bool ((rd_T38 l0 x3_1).f3.f0)) ∧ w'.cell? ⟨(ad293.add ((x3_1).toNat * 8)).block, (ad293.add ((x3_1).toNat * 8)).off + 6, none⟩ = some (.int .i64 ((rd_T38 l0 x3_1).f3.f1)) ∧ w'.cell? ⟨(ad293.add ((x3_1).toNat * 8)).block, (ad293.add ((x3_1).toNat * 8)).off + 7, none⟩ = some (.string ((rd_T38 l0 x3_1).f3.f2)) ∧ w'.cell? (ad293.add ((x4_2).toNat * 8)) = some (.int .i64 ((rd_T38 l0 x4_2).f0)) ∧ w'.cell? ⟨(ad293.add ((x4_2).toNat * 8)).block, (ad293.add ((x4_2).toNat * 8)).off + 1, none⟩ = some (.int .i64 ((rd_T38 l0 x4_2).f1)) ∧ w'.cell? ⟨(ad293.add ((x4_2).toNat * 8)).block, (ad293.add ((x4_2).toNat * 8)).off + 2, none⟩ = some (.bool ((rd_T38 l0 x4_2).f2.f0)) ∧ w'.cell? ⟨(ad293.add ((x4_2).toNat * 8)).block, (ad293.add ((x4_2).toNat * 8)).off + 3, none⟩ = some (.int .i64 ((rd_T38 l0 x4_2).f2.f1)) ∧ w'.cell? ⟨(ad293.add ((x4_2).toNat * 8)).block, (ad293.add ((x4_2).toNat * 8)).off + 4, none⟩ = some (.string ((rd_T38 l0 x4_2).f2.f2)) ∧ w'.cell? ⟨(ad293.add ((x4_2).toNat * 8)).block, (ad293.add ((x4_2).toNat * 8)).off + 5, none⟩ = some (.bool ((rd_T38 l0 x4_2).f3.f0)) ∧ w'.cell? ⟨(ad293.add ((x4_2).toNat * 8)).block, (ad293.add ((x4_2).toNat * 8)).off + 6, none⟩ = some (.int .i64 ((rd_T38 l0 x4_2).f3.f1)) ∧ w'.cell? ⟨(ad293.add ((x4_2).toNat * 8)).block, (ad293.add ((x4_2).toNat * 8)).off + 7, none⟩ = some (.string ((rd_T38 l0 x4_2).f3.f2))) (ds := []) #[false, false, false, false, false, false, false, false, false, false, false, false, false, false, false, false, false, false, false, false, false, false, false, false, false, false, false, false, false, false] (by kernel_rfl) rfl rfl ⟨(pw_cell_below HB.out hw293_0), (pw_cell_below HB.out hw293_1), (pw_cell_below HB.out hw293_2), (pw_cell_below HB.out hw293_3), (pw_cell_below HB.out hw293_4), (pw_cell_below HB.out hw293_5), (pw_cell_below HB.out hw293_6), (pw_cell_below HB.out hw293_7), (pw_cell_below HB.out hw294_0), (pw_cell_below HB.out hw294_1), (pw_cell_below HB.out hw294_2), (pw_cell_below HB.out hw294_3), (pw_cell_below HB.out hw294_4), (pw_cell_below HB.out hw294_5), (pw_cell_below HB.out hw294_6), (pw_cell_below HB.out hw294_7)⟩ (fun hHeld => ?_); refine with_tabW tithebarnref17_Disjoint.tab7 tithebarnref17_Disjoint.bits7 (fun HT_ HW_ => ?_)
             generalize wr.drew = w15 at HB hx293_0 hx293_1 hx293_2 hx293_3 hx293_4 hx293_5 hx293_6 hx293_7 hx294_0 hx294_1 hx294_2 hx294_3 hx294_4 hx294_5 hx294_6 hx294_7 hHeld ⊢
             refine pure_ (i := 0) (N := some 16) (v := ?_) (a' := ?_) #[true, false, false, false, false, false, false, false, false, false, false, false, false, false, false, false, false, false, false, false, false, false, false, false, false, false, false, false, false, false] rfl rfl (any_of HT_.out (by kernel_rfl)) (fun _ _ _ h => h) (Or.inl ⟨by rfl, ?_⟩) ?_ ?_
             rotate_left
             ·intro w'
              go_simp
              with_reducible rfl
             rotate_left
             ·simp only [Act.put, List.setIfInBounds_toArray, List.set_cons_zero, List.set_cons_succ, i64_w, i32_w]
              rfl
             refine pure_ (i := 1) (N := some 17) (v := ?_) (a' := ?_) #[true, true, false, false, false, false, false, false, false, false, false, false, false, false, false, false, false, false, false, false, false, false, false, false, false, false, false, false, false, false] rfl rfl (any_of HT_.out (by kernel_rfl)) (fun _ _ _ h => h) (Or.inl ⟨by rfl, ?_⟩) ?_ ?_
             rotate_left
             ·intro w'
              go_simp
              with_reducible rfl
             rotate_left
             ·simp only [Act.put, List.setIfInBounds_toArray, List.set_cons_zero, List.set_cons_succ, i64_w, i32_w]
              rfl
             refine pure_ (i := 2) (N := some 18) (v := ?_) (a' := ?_) #[true, true, true, false, false, false, false, false, false, false, false, false, false, false, false, false, false, false, false, false, false, false, false, false, false, false, false, false, false, false] rfl rfl (any_of HT_.out (by kernel_rfl)) (fun _ _ _ h => h) (Or.inl ⟨by rfl, ?_⟩) ?_ ?_
             rotate_left
             ·intro w'
              go_simp
              with_reducible rfl
             rotate_left
             ·simp only [Act.put, List.setIfInBounds_toArray, List.set_cons_zero, List.set_cons_succ, i64_w, i32_w]
              rfl
             refine pure_ (i := 3) (N := some 19) (v := ?_) (a' := ?_) #[true, true, true, true, false, false, false, false, false, false, false, false, false, false, false, false, false, false, false, false, false, false, false, false, false, false, false, false, false, false] rfl rfl (any_of HT_.out (by kernel_rfl)) (fun _ _ _ h => h) (Or.inl ⟨by rfl, ?_⟩) ?_ ?_
             rotate_left
             ·intro w'
              go_simp
              with_reducible rfl
             rotate_left
             ·simp only [Act.put, List.setIfInBounds_toArray, List.set_cons_zero, List.set_cons_succ, i64_w, i32_w]
              rfl
             refine pure_ (i := 5) (N := some 21) (v := ?_) (a' := ?_) #[true, true, true, true, false, true, false, false, false, false, false, false, false, false, false, false, false, false, false, false, false, false, false, false, false, false, false, false, false, false] rfl rfl (any_of HT_.out (by kernel_rfl)) (fun _ _ _ h => h) (Or.inl ⟨by rfl, ?_⟩) ?_ ?_
             rotate_left
             ·intro w'
              go_simp
              with_reducible rfl
             rotate_left
             ·simp only [Act.put, List.setIfInBounds_toArray, List.set_cons_zero, List.set_cons_succ, i64_w, i32_w]
              rfl
             refine pure_ (i := 6) (N := some 22) (v := ?_) (a' := ?_) #[true, true, true, true, false, true, true, false, false, false, false, false, false, false, false, false, false, false, false, false, false, false, false, false, false, false, false, false, false, false] rfl rfl (any_of HT_.out (by kernel_rfl)) (fun _ _ _ h => h) (Or.inl ⟨by rfl, ?_⟩) ?_ ?_
             rotate_left
             ·intro w'
              go_simp
              with_reducible rfl
             rotate_left
             ·simp only [Act.put, List.setIfInBounds_toArray, List.set_cons_zero, List.set_cons_succ, i64_w, i32_w]
              rfl
             refine pure_ (i := 7) (N := some 23) (v := ?_) (a' := ?_) #[true, true, true, true, false, true, true, true, false, false, false, false, false, false, false, false, false, false, false, false, false, false, false, false, false, false, false, false, false, false] rfl rfl (any_of HT_.out (by kernel_rfl)) (fun _ _ _ h => h) (Or.inl ⟨by rfl, ?_⟩) ?_ ?_
             rotate_left
             ·intro w'
              go_simp
              with_reducible rfl
             rotate_left
             ·simp only [Act.put, List.setIfInBounds_toArray, List.set_cons_zero, List.set_cons_succ, i64_w, i32_w]
              rfl
             refine pure_ (i := 8) (N := some 24) (v := ?_) (a' := ?_) #[true, true, true, true, false, true, true, true, true, false, false, false, false, false, false, false, false, false, false, false, false, false, false, false, false, false, false, false, false, false] rfl rfl (any_of HT_.out (by kernel_rfl)) (fun _ _ _ h => h) (Or.inl ⟨by rfl, ?_⟩) ?_ ?_
             rotate_left
             ·intro w'
              go_simp
              with_reducible rfl
             rotate_left
             ·simp only [Act.put, List.setIfInBounds_toArray, List.set_cons_zero, List.set_cons_succ, i64_w, i32_w]
              rfl
             refine take_ (i := 4) (N := some 20) (v := ?_) (a' := ?_) #[true, true, true, true, true, true, true, true, true, false, false, false, false, false, false, false, false, false, false, false, false, false, false, false, false, false, false, false, false, false] rfl rfl (take_ofW HT_.out HW_.out (by kernel_rfl)) (fun _ _ _ h => h) (Or.inl ⟨by rfl, ?_⟩) hHeld ?_ ?_
             rotate_left
             ·rintro w' ⟨s0, s1, s2, s3, s4, s5, s6, s7, s8, s9, s10, s11, s12, s13, s14, s15⟩
              go_simp
              with_reducible rfl
             rotate_left
             ·simp only [Act.put, List.setIfInBounds_toArray, List.set_cons_zero, List.set_cons_succ, i64_w, i32_w]
              rfl
             refine take_ (i := 9) (N := some 25) (v := ?_) (a' := ?_) #[true, true, true, true, true, true, true, true, true, true, false, false, false, false, false, false, false, false, false, false, false, false, false, false, false, false, false, false, false, false] rfl rfl (take_ofW HT_.out HW_.out (by kernel_rfl)) (fun _ _ _ h => h) (Or.inl ⟨by rfl, ?_⟩) hHeld ?_ ?_
             rotate_left
             ·rintro w' ⟨s0, s1, s2, s3, s4, s5, s6, s7, s8, s9, s10, s11, s12, s13, s14, s15⟩
              go_simp
              with_reducible rfl
             rotate_left
             ·simp only [Act.put, List.setIfInBounds_toArray, List.set_cons_zero, List.set_cons_succ, i64_w, i32_w]
              rfl
             refine pure_ (i := 10) (N := some 26) (v := ?_) (a' := ?_) #[true, true, true, true, true, true, true, true, true, true, true, false, false, false, false, false, false, false, false, false, false, false, false, false, false, false, false, false, false, false] rfl rfl (any_of HT_.out (by kernel_rfl)) (fun _ _ _ h => h) (Or.inl ⟨by rfl, ?_⟩) ?_ ?_
             rotate_left
             ·intro w'
              go_simp
              with_reducible rfl
             rotate_left
             ·simp only [Act.put, List.setIfInBounds_toArray, List.set_cons_zero, List.set_cons_succ, i64_w, i32_w]
              rfl
             refine pure_ (i := 11) (N := some 27) (v := ?_) (a' := ?_) #[true, true, true, true, true, true, true, true, true, true, true, true, false, false, false, false, false, false, false, false, false, false, false, false, false, false, false, false, false, false] rfl rfl (any_of HT_.out (by kernel_rfl)) (fun _ _ _ h => h) (Or.inl ⟨by rfl, ?_⟩) ?_ ?_
             rotate_left
             ·intro w'
              go_simp
              with_reducible rfl
             rotate_left
             ·simp only [Act.put, List.setIfInBounds_toArray, List.set_cons_zero, List.set_cons_succ, i64_w, i32_w]
              rfl
             refine pure_ (i := 12) (N := some 28) (v := undef) (a' := ?_) #[true, true, true, true, true, true, true, true, true, true, true, true, true, false, false, false, false, false, false, false, false, false, false, false, false, false, false, false, false, false] rfl rfl (any_of HT_.out (by kernel_rfl)) (fun _ _ _ h => h) (Or.inr ⟨by rfl, rfl⟩) ?_ ?_
             rotate_left
             ·simp only [Act.put, List.setIfInBounds_toArray, List.set_cons_zero, List.set_cons_succ, i64_w, i32_w]
              rfl
             refine pure_ (i := 13) (N := some 29) (v := undef) (a' := ?_) #[true, true, true, true, true, true, true, true, true, true, true, true, true, true, false, false, false, false, false, false, false, false, false, false, false, false, false, false, false, false] rfl rfl (any_of HT_.out (by kernel_rfl)) (fun _ _ _ h => h) (Or.inr ⟨by rfl, rfl⟩) ?_ ?_
             rotate_left
             ·simp only [Act.put, List.setIfInBounds_toArray, List.set_cons_zero, List.set_cons_succ, i64_w, i32_w]
              rfl
             refine pure_ (i := 14) (N := some 30) (v := undef) (a' := ?_) #[true, true, true, true, true, true, true, true, true, true, true, true, true, true, true, false, false, false, false, false, false, false, false, false, false, false, false, false, false, false] rfl rfl (any_of HT_.out (by kernel_rfl)) (fun _ _ _ h => h) (Or.inr ⟨by rfl, rfl⟩) ?_ ?_
             rotate_left
             ·simp only [Act.put, List.setIfInBounds_toArray, List.set_cons_zero, List.set_cons_succ, i64_w, i32_w]
              rfl
             refine pure_ (i := 15) (N := some 31) (v := undef) (a' := ?_) #[true, true, true, true, true, true, true, true, true, true, true, true, true, true, true, true, false, false, false, false, false, false, false, false, false, false, false, false, false, false] rfl rfl (any_of HT_.out (by kernel_rfl)) (fun _ _ _ h => h) (Or.inr ⟨by rfl, rfl⟩) ?_ ?_
             rotate_left
             ·simp only [Act.put, List.setIfInBounds_toArray, List.set_cons_zero, List.set_cons_succ, i64_w, i32_w]
              rfl
             refine pure_ (i := 16) (N := some 32) (v := undef) (a' := ?_) #[true, true, true, true, true, true, true, true, true, true, true, true, true, true, true, true, true, false, false, false, false, false, false, false, false, false, false, false, false, false] rfl rfl (any_of HT_.out (by kernel_rfl)) (fun _ _ _ h => h) (Or.inr ⟨by rfl, rfl⟩) ?_ ?_
             rotate_left
             ·simp only [Act.put, List.setIfInBounds_toArray, List.set_cons_zero, List.set_cons_succ, i64_w, i32_w]
              rfl
             refine pure_ (i := 17) (N := some 33) (v := undef) (a' := ?_) #[true, true, true, true, true, true, true, true, true, true, true, true, true, true, true, true, true, true, false, false, false, false, false, false, false, false, false, false, false, false] rfl rfl (any_of HT_.out (by kernel_rfl)) (fun _ _ _ h => h) (Or.inr ⟨by rfl, rfl⟩) ?_ ?_
             rotate_left
             ·simp only [Act.put, List.setIfInBounds_toArray, List.set_cons_zero, List.set_cons_succ, i64_w, i32_w]
              rfl
             refine pure_ (i := 18) (N := some 34) (v := ?_) (a' := ?_) #[true, true, true, true, true, true, true, true, true, true, true, true, true, true, true, true, true, true, true, false, false, false, false, false, false, false, false, false, false, false] rfl rfl (any_of HT_.out (by kernel_rfl)) (fun _ _ _ h => h) (Or.inl ⟨by rfl, ?_⟩) ?_ ?_
             rotate_left
             ·intro w'
              go_simp
              with_reducible rfl
             rotate_left
             ·simp only [Act.put, List.setIfInBounds_toArray, List.set_cons_zero, List.set_cons_succ, i64_w, i32_w]
              rfl
             refine pure_ (i := 19) (N := some 35) (v := ?_) (a' := ?_) #[true, true, true, true, true, true, true, true, true, true, true, true, true, true, true, true, true, true, true, true, false, false, false, false, false, false, false, false, false, false] rfl rfl (any_of HT_.out (by kernel_rfl)) (fun _ _ _ h => h) (Or.inl ⟨by rfl, ?_⟩) ?_ ?_
             rotate_left
             ·intro w'
              go_simp
              with_reducible rfl
             rotate_left
             ·simp only [Act.put, List.setIfInBounds_toArray, List.set_cons_zero, List.set_cons_succ, i64_w, i32_w]
              rfl
             refine pure_ (i := 20) (N := some 36) (v := undef) (a' := ?_) #[true, true, true, true, true, true, true, true, true, true, true, true, true, true, true, true, true, true, true, true, true, false, false, false, false, false, false, false, false, false] rfl rfl (any_of HT_.out (by kernel_rfl)) (fun _ _ _ h => h) (Or.inr ⟨by rfl, rfl⟩) ?_ ?_
             rotate_left
             ·simp only [Act.put, List.setIfInBounds_toArray, List.set_cons_zero, List.set_cons_succ, i64_w, i32_w]
              rfl
             refine pure_ (i := 21) (N := some 37) (v := undef) (a' := ?_) #[true, true, true, true, true, true, true, true, true, true, true, true, true, true, true, true, true, true, true, true, true, true, false, false, false, false, false, false, false, false] rfl rfl (any_of HT_.out (by kernel_rfl)) (fun _ _ _ h => h) (Or.inr ⟨by rfl, rfl⟩) ?_ ?_
             rotate_left
             ·simp only [Act.put, List.setIfInBounds_toArray, List.set_cons_zero, List.set_cons_succ, i64_w, i32_w]
              rfl
             refine pure_ (i := 22) (N := some 38) (v := undef) (a' := ?_) #[true, true, true, true, true, true, true, true, true, true, true, true, true, true, true, true, true, true, true, true, true, true, true, false, false, false, false, false, false, false] rfl rfl (any_of HT_.out (by kernel_rfl)) (fun _ _ _ h => h) (Or.inr ⟨by rfl, rfl⟩) ?_ ?_
             rotate_left
             ·simp only [Act.put, List.setIfInBounds_toArray, List.set_cons_zero, List.set_cons_succ, i64_w, i32_w]
              rfl
             refine pure_ (i := 23) (N := some 39) (v := undef) (a' := ?_) #[true, true, true, true, true, true, true, true, true, true, true, true, true, true, true, true, true, true, true, true, true, true, true, true, false, false, false, false, false, false] rfl rfl (any_of HT_.out (by kernel_rfl)) (fun _ _ _ h => h) (Or.inr ⟨by rfl, rfl⟩) ?_ ?_
             rotate_left
             ·simp only [Act.put, List.setIfInBounds_toArray, List.set_cons_zero, List.set_cons_succ, i64_w, i32_w]
              rfl
             refine pure_ (i := 24) (N := some 40) (v := undef) (a' := ?_) #[true, true, true, true, true, true, true, true, true, true, true, true, true, true, true, true, true, true, true, true, true, true, true, true, true, false, false, false, false, false] rfl rfl (any_of HT_.out (by kernel_rfl)) (fun _ _ _ h => h) (Or.inr ⟨by rfl, rfl⟩) ?_ ?_
             rotate_left
             ·simp only [Act.put, List.setIfInBounds_toArray, List.set_cons_zero, List.set_cons_succ, i64_w, i32_w]
              rfl
             refine pure_ (i := 25) (N := some 41) (v := undef) (a' := ?_) #[true, true, true, true, true, true, true, true, true, true, true, true, true, true, true, true, true, true, true, true, true, true, true, true, true, true, false, false, false, false] rfl rfl (any_of HT_.out (by kernel_rfl)) (fun _ _ _ h => h) (Or.inr ⟨by rfl, rfl⟩) ?_ ?_
             rotate_left
             ·simp only [Act.put, List.setIfInBounds_toArray, List.set_cons_zero, List.set_cons_succ, i64_w, i32_w]
              rfl
             refine pure_ (i := 26) (N := some 42) (v := undef) (a' := ?_) #[true, true, true, true, true, true, true, true, true, true, true, true, true, true, true, true, true, true, true, true, true, true, true, true, true, true, true, false, false, false] rfl rfl (any_of HT_.out (by kernel_rfl)) (fun _ _ _ h => h) (Or.inr ⟨by rfl, rfl⟩) ?_ ?_
             rotate_left
             ·simp only [Act.put, List.setIfInBounds_toArray, List.set_cons_zero, List.set_cons_succ, i64_w, i32_w]
              rfl
             refine pure_ (i := 27) (N := some 43) (v := undef) (a' := ?_) #[true, true, true, true, true, true, true, true, true, true, true, true, true, true, true, true, true, true, true, true, true, true, true, true, true, true, true, true, false, false] rfl rfl (any_of HT_.out (by kernel_rfl)) (fun _ _ _ h => h) (Or.inr ⟨by rfl, rfl⟩) ?_ ?_
             rotate_left
             ·simp only [Act.put, List.setIfInBounds_toArray, List.set_cons_zero, List.set_cons_succ, i64_w, i32_w]
              rfl
             refine pure_ (i := 28) (N := some 44) (v := undef) (a' := ?_) #[true, true, true, true, true, true, true, true, true, true, true, true, true, true, true, true, true, true, true, true, true, true, true, true, true, true, true, true, true, false] rfl rfl (any_of HT_.out (by kernel_rfl)) (fun _ _ _ h => h) (Or.inr ⟨by rfl, rfl⟩) ?_ ?_
             rotate_left
             ·simp only [Act.put, List.setIfInBounds_toArray, List.set_cons_zero, List.set_cons_succ, i64_w, i32_w]
              rfl
             refine pure_ (i := 29) (N := some 45) (v := ?_) (a' := ?_) #[true, true, true, true, true, true, true, true, true, true, true, true, true, true, true, true, true, true, true, true, true, true, true, true, true, true, true, true, true, true] rfl rfl (any_of HT_.out (by kernel_rfl)) (fun _ _ _ h => h) (Or.inl ⟨by rfl, ?_⟩) ?_ ?_
             rotate_left
             ·intro w'
              go_simp
              with_reducible rfl
             rotate_left
             ·simp only [Act.put, List.setIfInBounds_toArray, List.set_cons_zero, List.set_cons_succ, i64_w, i32_w]
              rfl
             refine done_ (done_of HT_.out (by kernel_rfl)) ?_
             try go_wp2
             go_meet
             case rel => exact ⟨_, (false), (by first | rfl | (simp; done) | (simp [*]; done)), H', ⟨by have := HK1.out; have := HK2.out; first | omega | exact Nat.le_refl _⟩, ⟨by repeat (first | (with_reducible first | exact HB.out | apply below_alloc | apply pw_below_drewN | apply below_drew1) | exact HB.out)⟩⟩
           ·rw [if_neg c8] at H
            exact absurd H (by simp)
          ·rw [if_neg c7] at H
           exact absurd H (by simp)
         ·rw [if_neg c6] at H
          exact absurd H (by simp)
        ·rw [if_neg c5] at H
         exact absurd H (by simp)
       case rest =>
        clear HC4
        try clear c2
        try clear p2
        try clear q2
        try clear hx2
        try clear c5
        try clear c6
        try clear c7
        try clear c8
        try clear c9
        try clear c9b0
        try clear c9b1
        try clear hx293_0 hx293_1 hx293_2 hx293_3 hx293_4 hx293_5 hx293_6 hx293_7
        try clear hx294_0 hx294_1 hx294_2 hx294_3 hx294_4 hx294_5 hx294_6 hx294_7
        try clear hx295_0 hx295_1 hx295_2 hx295_3 hx295_4 hx295_5 hx295_6 hx295_7
        try clear hx296_0 hx296_1 hx296_2 hx296_3 hx296_4 hx296_5 hx296_6 hx296_7
        try clear hx297_0 hx297_1 hx297_2 hx297_3 hx297_4 hx297_5 hx297_6 hx297_7
        try clear p293
        try clear p294
        try clear p295
        try clear p296
        try clear p297
        try clear q293
        try clear q294
        try clear q295
        try clear q296
        try clear q297
        obtain ⟨kq, x45_3, rfl, HA, HJ3, HB⟩ := hcut
        cases kq with
        | zero => exact absurd HA.out (by simp [tithebarnref17_Disjoint.j2])
        | succ kj3 =>
         have H := HA.out
         clear HA
         simp only [tithebarnref17_Disjoint.j2] at H
         by_cases c16 : x45_3 = true
         ·subst c16
          have H1 : (some false) = some r := by rw [if_pos rfl] at H; exact H
          clear H
          have H := H1
          clear H1
          obtain rfl := Option.some.inj H
          go_wp2
          go_ret
          exact ⟨by first | rfl | (simp [errW_none, errW_some] <;> rfl) | (simp [*, errW_none, errW_some] <;> rfl), by repeat (first | (with_reducible first | exact HB.out | apply below_alloc | apply pw_below_drewN | apply below_drew1) | exact HB.out)⟩
         ·replace c16 := Bool.eq_false_iff.mpr c16
          subst c16
          have H1 : (tithebarnref17_Disjoint.l1 kj3 l0 x3_1 (wrap64 (x4_2 + 1))) = some r := by rw [if_neg (show ¬ (false = true) by decide)] at H; exact H
          clear H
          have H := H1
          clear H1
          have H' := Aside0.mk H
          clear H
          go_wp2
          go_roundg kj3
          case measure => have := HK1.out; have := HK2.out; have := HJ3.out; omega
          case rel => exact ⟨(wrap64 (x4_2 + 1)), (by first | rfl | (simp; done) | (simp [*]; done)), H', ⟨by have := HK1.out; have := HK2.out; have := HJ3.out; omega⟩, ⟨by repeat (first | (with_reducible first | exact HB.out | apply below_alloc | apply pw_below_drewN | apply below_drew1) | exact HB.out)⟩⟩
      ·rw [if_neg c3] at H
       have c3b0 : decide (x4_2 < x3_1) = false := decide_eq_false c3
       clear c3
       have H' := Aside0.mk H
       clear H
       go_wp2
       go_roundg k2
       case measure => have := HK1.out; have := HK2.out; omega
       case rel => exact ⟨(wrap64 (x3_1 + 1)), (by first | rfl | (simp; done) | (simp [*]; done)), H', ⟨by have := HK1.out; have := HK2.out; omega⟩, ⟨by repeat (first | (with_reducible first | exact HB.out | apply below_alloc | apply pw_below_drewN | apply below_drew1) | exact HB.out)⟩⟩
   ·rw [if_neg c2] at H
    have c2b0 : decide (x3_1 < (l0.length : Int)) = false := decide_eq_false c2
    clear c2
    obtain rfl := Option.some.inj H
    go_wp2
    go_ret
    exact ⟨by first | rfl | (simp [errW_none, errW_some] <;> rfl) | (simp [*, errW_none, errW_some] <;> rfl), by repeat (first | (with_reducible first | exact HB.out | apply below_alloc | apply pw_below_drewN | apply below_drew1) | exact HB.out)⟩

end Go.Proofs.Ytcbgcmaioicdbaa.Pr
