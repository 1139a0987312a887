-- printed by xprint.py
import Derived.Test.YthlelhndmnkmjaaPr0
import Derived.Test.YthlelhndmnkmjaaPrf61
namespace Go.Proofs.Ythlelhndmnkmjaa.Pr
open Go.RowKit Go.Proofs.YthlelhndmnkmjaaW PrintWords PrintLast PrintMore
set_option linter.unusedVariables false
set_option linter.unusedSimpArgs false

/-! ### tithebarnref24_Total: function 31 -/
def tithebarnref24_Total.l0 : Nat → List (S49) → Int → Int → Int → Int → Bool → Int → ByteArray → Bool → Int → ByteArray → Option (Int × Int × Int × Bool × Int × ByteArray × Bool × Int × ByteArray)
 | 0, _, _, _, _, _, _, _, _, _, _, _ => none
 | k + 1, x0, x4, x348000, x348001, x348002, x348003, x348004, x348005, x348006, x348007, x348008 => if x4 < (x0.length : Int) then (if 0 ≤ x4 then ((tithebarnref18_Join.f k x348000 x348001 x348002 x348003 x348004 x348005 x348006 x348007 x348008 ((rd_T49 x0 x4).f1.f0) ((rd_T49 x0 x4).f1.f1) ((rd_T49 x0 x4).f1.f2) ((rd_T49 x0 x4).f1.f3.f0) ((rd_T49 x0 x4).f1.f3.f1) ((rd_T49 x0 x4).f1.f3.f2) ((rd_T49 x0 x4).f1.f4.f0) ((rd_T49 x0 x4).f1.f4.f1) ((rd_T49 x0 x4).f1.f4.f2)).bind fun bt349 => (tithebarnref24_Total.l0 k x0 (wrap64 (x4 + 1)) bt349.1 bt349.2.1 bt349.2.2.1 bt349.2.2.2.1 bt349.2.2.2.2.1 bt349.2.2.2.2.2.1 bt349.2.2.2.2.2.2.1 bt349.2.2.2.2.2.2.2.1 bt349.2.2.2.2.2.2.2.2)) else (none)) else (some (x348000, x348001, x348002, x348003, x348004, x348005, x348006, x348007, x348008))
def tithebarnref24_Total.f (k : Nat) (l0 : List (S49)) : Option (Int × Int × Int × Bool × Int × ByteArray × Bool × Int × ByteArray) := tithebarnref24_Total.l0 k l0 0 0 0 0 false 0 (⟨#[]⟩ : ByteArray) false 0 (⟨#[]⟩ : ByteArray)
theorem tithebarnref24_Total.mono_l : ∀ k, (∀ y0 y1 y2 y3 y4 y5 y6 y7 y8 y9 y10, LeO (tithebarnref24_Total.l0 k y0 y1 y2 y3 y4 y5 y6 y7 y8 y9 y10) (tithebarnref24_Total.l0 (k + 1) y0 y1 y2 y3 y4 y5 y6 y7 y8 y9 y10))
 | 0 => fun _ _ _ _ _ _ _ _ _ _ _ r h => by simp [tithebarnref24_Total.l0] at h
 | k + 1 => by
  have ih0 := tithebarnref24_Total.mono_l k
  ·intro y0 y1 y2 y3 y4 y5 y6 y7 y8 y9 y10
   unfold tithebarnref24_Total.l0
   repeat' first
   | (with_reducible exact ih0 _ _ _ _ _ _ _ _ _ _ _)
   | (with_reducible exact tithebarnref18_Join.mono _ _ _ _ _ _ _ _ _ _ _ _ _ _ _ _ _ _ _)
   | (with_reducible exact LeO.refl _)
   | (with_reducible exact LeO.none _)
   | (with_reducible refine LeO.ite ?_ ?_)
   | (with_reducible refine LeO.bind ?_ (fun _ => ?_))
theorem tithebarnref24_Total.mono : ∀ a0 k, LeO (tithebarnref24_Total.f k a0) (tithebarnref24_Total.f (k + 1) a0) := by
 intro a0 k
 have ih0 := tithebarnref24_Total.mono_l k
 unfold tithebarnref24_Total.f
 repeat' first
   | (with_reducible exact ih0 _ _ _ _ _ _ _ _ _ _ _)
   | (with_reducible exact tithebarnref18_Join.mono _ _ _ _ _ _ _ _ _ _ _ _ _ _ _ _ _ _ _)
   | (with_reducible exact LeO.refl _)
   | (with_reducible exact LeO.none _)
   | (with_reducible refine LeO.ite ?_ ?_)
   | (with_reducible refine LeO.bind ?_ (fun _ => ?_))
def tithebarnref24_Total.T5 : Bool × List (List Nat × List Nat) := (true, [([], []), ([], []), ([], []), ([1, 2], [1, 2]), ([3], [3]), ([4], [4]), ([0, 5], [0, 5]), ([6, 6, 0, 1, 2, 3, 4, 5, 6], [6])])
def tithebarnref24_Total.B5 : List Nat := [0, 0, 0, 6, 14, 30, 63, 127]
theorem tithebarnref24_Total.tab5 : rtab .any (opsOf Try.f31 5) = tithebarnref24_Total.T5 := by kernel_rfl
theorem tithebarnref24_Total.bits5 : waitsOk tithebarnref24_Total.T5.2 tithebarnref24_Total.B5 = true := by kernel_rfl
set_option maxHeartbeats 8000000 in
set_option maxRecDepth 100000 in
theorem tithebarnref24_Total.calls (k : Nat) (A0 : Option Addr) (c0 : Nat) (l0 : List (S49)) (r1 : Int) (r2 : Int) (r3 : Int) (r4 : Bool) (r5 : Int) (r6 : ByteArray) (r7 : Bool) (r8 : Int) (r9 : ByteArray) (w : World) (hr0 : Kd.C k49 w A0 l0.length l0) (hc0 : l0.length ≤ c0) (h : tithebarnref24_Total.f k l0 = some (r1, r2, r3, r4, r5, r6, r7, r8, r9)) :
  Calls Try.prog 31 #[.slice A0 l0.length c0] w fun e w' => e = .returned (.agg #[.int .i64 r1, .int .i64 r2, .int .i64 r3, .bool r4, .int .i64 r5, .string r6, .bool r7, .int .i64 r8, .string r9]) ∧ Below w.heap.size w w' := by
 have hu47 := Try.underlying47
 have HR0 := Aside0.mk hr0
 have HC0 := Aside0.mk hc0
 clear hr0 hc0
 have HB := Aside0.mk (Below.refl w.heap.size w)
 have H : (tithebarnref24_Total.l0 k l0 0 0 0 0 false 0 (⟨#[]⟩ : ByteArray) false 0 (⟨#[]⟩ : ByteArray)) = some (r1, r2, r3, r4, r5, r6, r7, r8, r9) := h
 clear h
 have H' := Aside0.mk H
 clear H
 go_enter Try.func31, Try.ntmps31
 go_wp2_with (first | ((with_reducible refine gate_dst (N := 2) rfl ?_); refine box_event ?hg (N := 2) ?hd (cs := #[.int .i64 0, .int .i64 0, .int .i64 0, .bool false, .int .i64 0, .string (⟨#[]⟩ : ByteArray), .bool false, .int .i64 0, .string (⟨#[]⟩ : ByteArray)]) (t := 47) ?hr ?_; (case hd => rfl); (case hg => rfl); (case hr => first | (go_simp; done) | (go_simp; rfl)); intro gb346 hg w2 hbox hb; have n0_ := Aside0.mk (below_step (by with_reducible repeat first | exact HB.out | apply below_alloc | apply pw_below_drewN | apply below_drew1) hb); have n1_ := Aside0.mk (hbox); have n2_ := Aside0.mk ((by rw [hg]; exact (below_size (by with_reducible repeat first | exact HB.out | apply below_alloc | apply pw_below_drewN | apply below_drew1)) : w.heap.size ≤ gb346)); have n3_ := Aside0.mk ((by rw [hg]; exact (below_size (by with_reducible repeat first | exact HB.out | apply below_alloc | apply pw_below_drewN | apply below_drew1)) : w.heap.size ≤ gb346)); clear HB; have HB := n0_; have BK346 := n1_; have GW346 := n2_; have GE346 := n3_; clear n0_ n1_ n2_ n3_; clear hb hbox hg) | ((with_reducible refine gate_dst (N := 3) rfl ?_); refine box_event ?hg (N := 3) ?hd (cs := #[.int .i64 0, .int .i64 0, .int .i64 0, .bool false, .int .i64 0, .string (⟨#[]⟩ : ByteArray), .bool false, .int .i64 0, .string (⟨#[]⟩ : ByteArray)]) (t := 47) ?hr ?_; (case hd => rfl); (case hg => rfl); (case hr => first | (go_simp; done) | (go_simp; rfl)); intro gb347 hg w3 hbox hb; have n0_ := Aside0.mk (blk_below (g := gb346) (o := .cells #[.int .i64 0, .int .i64 0, .int .i64 0, .bool false, .int .i64 0, .string (⟨#[]⟩ : ByteArray), .bool false, .int .i64 0, .string (⟨#[]⟩ : ByteArray)] 47 (0, 0)) (by (with_reducible repeat (first | refine blk_drewN ?_ _ | refine blk_drew ?_ | refine blk_alloc ?_ _)); exact BK346.out) hb); have n1_ := Aside0.mk (below_step (by with_reducible repeat first | exact HB.out | apply below_alloc | apply pw_below_drewN | apply below_drew1 | refine below_set ?_ GE346.out) hb); have n2_ := Aside0.mk (hbox); have n3_ := Aside0.mk ((by rw [hg]; exact (below_size (by with_reducible repeat first | exact HB.out | apply below_alloc | apply pw_below_drewN | apply below_drew1 | refine below_set ?_ GE346.out)) : w.heap.size ≤ gb347)); have n4_ := Aside0.mk ((by rw [hg]; exact (below_size (by with_reducible repeat first | exact HB.out | apply below_alloc | apply pw_below_drewN | apply below_drew1 | refine below_set ?_ GE346.out)) : w.heap.size ≤ gb347)); have n5_ := Aside0.mk ((by rw [hg]; exact Nat.ne_of_lt (blk_lt (g := gb346) (o := .cells #[.int .i64 0, .int .i64 0, .int .i64 0, .bool false, .int .i64 0, .string (⟨#[]⟩ : ByteArray), .bool false, .int .i64 0, .string (⟨#[]⟩ : ByteArray)] 47 (0, 0)) (by (with_reducible repeat (first | refine blk_drewN ?_ _ | refine blk_drew ?_ | refine blk_alloc ?_ _)); exact BK346.out)) : gb346 ≠ gb347)); have n6_ := Aside0.mk ((by rw [hg]; exact Nat.ne_of_gt (blk_lt (g := gb346) (o := .cells #[.int .i64 0, .int .i64 0, .int .i64 0, .bool false, .int .i64 0, .string (⟨#[]⟩ : ByteArray), .bool false, .int .i64 0, .string (⟨#[]⟩ : ByteArray)] 47 (0, 0)) (by (with_reducible repeat (first | refine blk_drewN ?_ _ | refine blk_drew ?_ | refine blk_alloc ?_ _)); exact BK346.out)) : gb347 ≠ gb346)); clear BK346; clear HB; have BK346 := n0_; have HB := n1_; have BK347 := n2_; have GW347 := n3_; have GE347 := n4_; have NB346_347 := n5_; have NB347_346 := n6_; clear n0_ n1_ n2_ n3_ n4_ n5_ n6_; clear hb hbox hg))
 go_loopg [4] k (fun kq v4 w' => ∃ (x4_1 : Int) (x348000_1 : Int) (x348001_1 : Int) (x348002_1 : Int) (x348003_1 : Bool) (x348004_1 : Int) (x348005_1 : ByteArray) (x348006_1 : Bool) (x348007_1 : Int) (x348008_1 : ByteArray), v4 = .int .i64 x4_1 ∧ Aside0 (tithebarnref24_Total.l0 kq l0 x4_1 x348000_1 x348001_1 x348002_1 x348003_1 x348004_1 x348005_1 x348006_1 x348007_1 x348008_1 = some (r1, r2, r3, r4, r5, r6, r7, r8, r9)) ∧ Aside0 (kq ≤ k) ∧ Aside0 (w'.heap[gb346]? = some (.cells #[.int .i64 0, .int .i64 0, .int .i64 0, .bool false, .int .i64 0, .string (⟨#[]⟩ : ByteArray), .bool false, .int .i64 0, .string (⟨#[]⟩ : ByteArray)] 47 (0, 0))) ∧ Aside0 (w'.heap[gb347]? = some (.cells #[.int .i64 x348000_1, .int .i64 x348001_1, .int .i64 x348002_1, .bool x348003_1, .int .i64 x348004_1, .string x348005_1, .bool x348006_1, .int .i64 x348007_1, .string x348008_1] 47 (0, 0))) ∧ Aside0 (Below w.heap.size w w'))
 case atStart => exact ⟨(0), (0), (0), (0), (false), (0), ((⟨#[]⟩ : ByteArray)), (false), (0), ((⟨#[]⟩ : ByteArray)), (by first | rfl | (simp; done) | (simp [*]; done)), H', ⟨Nat.le_refl _⟩, ⟨by (with_reducible repeat (first | refine blk_drewN ?_ _ | refine blk_drew ?_ | refine blk_alloc ?_ _)); exact BK346.out⟩, ⟨by (with_reducible repeat (first | refine blk_drewN ?_ _ | refine blk_drew ?_ | refine blk_alloc ?_ _)); exact BK347.out⟩, ⟨by repeat (first | (with_reducible first | exact HB.out | apply below_alloc | apply pw_below_drewN | apply below_drew1 | refine below_set ?_ GE346.out | refine below_set ?_ GE347.out) | exact HB.out)⟩⟩
 case round =>
  clear H'
  try clear p2
  try clear c3
  obtain ⟨x4_1, x348000_1, x348001_1, x348002_1, x348003_1, x348004_1, x348005_1, x348006_1, x348007_1, x348008_1, rfl, HA, HK1, BK346, BK347, HB⟩ := hrel
  cases gk with
  | zero => exact absurd HA.out (by simp [tithebarnref24_Total.l0])
  | succ k1 =>
   have H := HA.out
   clear HA
   simp only [tithebarnref24_Total.l0] at H
   by_cases c4 : x4_1 < (l0.length : Int)
   ·rw [if_pos c4] at H
    have c4b0 : decide (x4_1 < (l0.length : Int)) = true := decide_eq_true c4
    clear c4
    by_cases c5 : 0 ≤ x4_1
    ·rw [if_pos c5] at H
     have c5b0 : decide (0 ≤ x4_1) = true := decide_eq_true c5
     clear c5
     replace H := Option.bind_eq_some_iff.mp H
     obtain ⟨⟨t349, t350, t351, t352, t353, t354, t355, t356, t357⟩, A60, H⟩ := H
     replace H : (tithebarnref24_Total.l0 k1 l0 (wrap64 (x4_1 + 1)) t349 t350 t351 t352 t353 t354 t355 t356 t357) = some (r1, r2, r3, r4, r5, r6, r7, r8, r9) := H
     have A6 := Aside0.mk A60
     clear A60
     have H' := Aside0.mk H
     clear H
     try go_wp2
     have n0_ := Aside0.mk (blk_drew BK346.out)
     have n1_ := Aside0.mk (blk_drew BK347.out)
     have n2_ := Aside0.mk (below_drew1 HB.out)
     clear BK346
     clear BK347
     clear HB
     have BK346 := n0_
     have BK347 := n1_
     have HB := n2_
     clear n0_ n1_ n2_
     have p348 : 0 ≤ (x4_1 : Int) := of_decide_eq_true (by with_reducible assumption)
     have q348 : x4_1 < (l0.length : Int) := of_decide_eq_true (by with_reducible assumption)
     obtain ⟨ad348, e348, hx348_0, hx348_1, hx348_2, hx348_3, hx348_4, hx348_5, hx348_6, hx348_7, hx348_8, hx348_9, hx348_10, hx348_11⟩ := at_T49 HR0.out x4_1 p348 q348
     have hw348_11 := hx348_11
     have hw348_10 := hx348_10
     have hw348_9 := hx348_9
     have hw348_8 := hx348_8
     have hw348_7 := hx348_7
     have hw348_6 := hx348_6
     have hw348_5 := hx348_5
     have hw348_4 := hx348_4
     have hw348_3 := hx348_3
     have hw348_2 := hx348_2
     have hw348_1 := hx348_1
     have hw348_0 := hx348_0
     cases e348
     replace hx348_0 := pw_cell_below HB.out hx348_0
     replace hx348_1 := pw_cell_below HB.out hx348_1
     replace hx348_2 := pw_cell_below HB.out hx348_2
     replace hx348_3 := pw_cell_below HB.out hx348_3
     replace hx348_4 := pw_cell_below HB.out hx348_4
     replace hx348_5 := pw_cell_below HB.out hx348_5
     replace hx348_6 := pw_cell_below HB.out hx348_6
     replace hx348_7 := pw_cell_below HB.out hx348_7
     replace hx348_8 := pw_cell_below HB.out hx348_8
     replace hx348_9 := pw_cell_below HB.out hx348_9
     replace hx348_10 := pw_cell_below HB.out hx348_10
     replace hx348_11 := pw_cell_below HB.out hx348_11
     replace p348 := eq_true p348
     replace q348 := eq_true q348
     refine start_ (n := 8) (S := fun w' => w'.cell? ⟨gb347, 0, none⟩ = some (.int .i64 x348000_1) ∧ w'.cell? ⟨gb347, 1, none⟩ = some (.int .i64 x348001_1) ∧ w'.cell? ⟨gb347, 2, none⟩ = some (.int .i64 x348002_1) ∧ w'.cell? ⟨gb347, 3, none⟩ = some (.bool x348003_1) ∧ w'.cell? ⟨gb347, 4, none⟩ = some (.int .i64 x348004_1) ∧ w'.cell? ⟨gb347, 5, none⟩ = some (.string x348005_1) ∧ w'.cell? ⟨gb347, 6, none⟩ = some (.bool x348006_1) ∧ w'.cell? ⟨gb347, 7, none⟩ = some (.int .i64 x348007_1) ∧ w'.cell? ⟨gb347, 8, none⟩ = some (.string x348008_1) ∧ w'.cell? (ad348.add ((x4_1).toNat * 12)) = some (.bool ((rd_T49 l0 x4_1).f0.f0)) ∧ w'.cell? ⟨(ad348.add ((x4_1).toNat * 12)).block, (ad348.add ((x4_1).toNat * 12)).off + 1, none⟩ = some (.int .i64 ((rd_T49 l0 x4_1).f0.f1)) ∧ w'.cell? ⟨(ad348.add ((x4_1).toNat * 12)).block, (ad348.add ((x4_1).toNat * 12)).off + 2, none⟩ = some (.string ((rd_T49 l0 x4_1).f0.f2)) ∧ w'.cell? ⟨(ad348.add ((x4_1).toNat * 12)).block, (ad348.add ((x4_1).toNat * 12)).off + 3, none⟩ = some (.int .i64 ((rd_T49 l0 x4_1).f1.f0)) ∧ w'.cell? ⟨(ad348.add ((x4_1).toNat * 12)).block, (ad348.add ((x4_1).toNat * 12)).off + 4, none⟩ = some (.int .i64 ((rd_T49 l0 x4_1).f1.f1)) ∧ w'.cell? ⟨(ad348.add ((x4_1).toNat * 12)).block, (ad348.add ((x4_1).toNat * 12)).off + 5, none⟩ = some (.int .i64 ((rd_T49 l0 x4_1).f1.f2)) ∧ w'.cell? ⟨(ad348.add ((x4_1).toNat * 12)).block, (ad348.add ((x4_1).toNat * 12)).off + 6, none⟩ = some (.bool ((rd_T49 l0 x4_1).f1.f3.f0)) ∧ w'.cell? ⟨(ad348.add ((x4_1).toNat * 12)).block, (ad348.add ((x4_1).toNat * 12)).off + 7, none⟩ = some (.int .i64 ((rd_T49 l0 x4_1).f1.f3.f1)) ∧ w'.cell? ⟨(ad348.add ((x4_1).toNat * 12)).block, (ad348.add ((x4_1).toNat * 12)).off + 8, none⟩ = some (.string ((rd_T49 l0 x4_1).f1.f3.f2)) ∧ w'.cell? ⟨(ad348.add ((x4_1).toNat * 12)).block, (ad348.add ((x4_1).toNat * 12)).off + 9, none⟩ = some (.bool ((rd_T49 l0 x4_1).f1.f4.f0)) ∧ w'.cell? ⟨(ad348.add ((x4_1).toNat * 12)).block, (ad348.add ((x4_1).toNat * 12)).off + 10, none⟩ = some (.int .i64 ((rd_T49 l0 x4_1).f1.f4.f1)) ∧ w'.cell? ⟨(ad348.add ((x4_1).toNat * 12)).block, (ad348.add ((x4_1).toNat * 12)).off + 11, none⟩ = some (.string ((rd_T49 l0 x4_1).f1.f4.f2))) (ds := [7]) #[false, false, false, false, false, false, false, false] (by kernel_rfl) rfl rfl ⟨(blk_cell BK347.out 0).trans rfl, (blk_cell BK347.out 1).trans rfl, (blk_cell BK347.out 2).trans rfl, (blk_cell BK347.out 3).trans rfl, (blk_cell BK347.out 4).trans rfl, (blk_cell BK347.out 5).trans rfl, (blk_cell BK347.out 6).trans rfl, (blk_cell BK347.out 7).trans rfl, (blk_cell BK347.out 8).trans rfl, (pw_cell_below HB.out hw348_0), (pw_cell_below HB.out hw348_1), (pw_cell_below HB.out hw348_2), (pw_cell_below HB.out hw348_3), (pw_cell_below HB.out hw348_4), (pw_cell_below HB.out hw348_5), (pw_cell_below HB.out hw348_6), (pw_cell_below HB.out hw348_7), (pw_cell_below HB.out hw348_8), (pw_cell_below HB.out hw348_9), (pw_cell_below HB.out hw348_10), (pw_cell_below HB.out hw348_11)⟩ (fun hHeld => ?_); refine with_tabW tithebarnref24_Total.tab5 tithebarnref24_Total.bits5 (fun HT_ HW_ => ?_)
     generalize wr.drew = w7 at BK346 BK347 HB hx348_0 hx348_1 hx348_10 hx348_11 hx348_2 hx348_3 hx348_4 hx348_5 hx348_6 hx348_7 hx348_8 hx348_9 hHeld ⊢
     refine pure_ (i := 1) (N := some 12) (v := ?_) (a' := ?_) #[false, true, false, false, false, false, false, false] rfl rfl (any_of HT_.out (by kernel_rfl)) (fun _ _ _ h => h) (Or.inl ⟨by rfl, ?_⟩) ?_ ?_
     rotate_left
     ·intro w'
      go_simp
      with_reducible rfl
     rotate_left
     ·simp only [Act.put, List.setIfInBounds_toArray, List.set_cons_zero, List.set_cons_succ, i64_w, i32_w]
      rfl
     refine pure_ (i := 2) (N := some 13) (v := ?_) (a' := ?_) #[false, true, true, false, false, false, false, false] rfl rfl (any_of HT_.out (by kernel_rfl)) (fun _ _ _ h => h) (Or.inl ⟨by rfl, ?_⟩) ?_ ?_
     rotate_left
     ·intro w'
      go_simp
      with_reducible rfl
     rotate_left
     ·simp only [Act.put, List.setIfInBounds_toArray, List.set_cons_zero, List.set_cons_succ, i64_w, i32_w]
      rfl
     refine pure_ (i := 3) (N := some 14) (v := ?_) (a' := ?_) #[false, true, true, true, false, false, false, false] rfl rfl (any_of HT_.out (by kernel_rfl)) (fun _ _ _ h => h) (Or.inl ⟨by rfl, ?_⟩) ?_ ?_
     rotate_left
     ·intro w'
      go_simp
      with_reducible rfl
     rotate_left
     ·simp only [Act.put, List.setIfInBounds_toArray, List.set_cons_zero, List.set_cons_succ, i64_w, i32_w]
      rfl
     refine pure_ (i := 4) (N := some 15) (v := ?_) (a' := ?_) #[false, true, true, true, true, false, false, false] rfl rfl (any_of HT_.out (by kernel_rfl)) (fun _ _ _ h => h) (Or.inl ⟨by rfl, ?_⟩) ?_ ?_
     rotate_left
     ·intro w'
      go_simp
      with_reducible rfl
     rotate_left
     ·simp only [Act.put, List.setIfInBounds_toArray, List.set_cons_zero, List.set_cons_succ, i64_w, i32_w]
      rfl
     refine take_ (i := 0) (N := some 11) (v := ?_) (a' := ?_) #[true, true, true, true, true, false, false, false] rfl rfl (take_ofW HT_.out HW_.out (by kernel_rfl)) (fun _ _ _ h => h) (Or.inl ⟨by rfl, ?_⟩) hHeld ?_ ?_
     rotate_left
     ·rintro w' ⟨s0, s1, s2, s3, s4, s5, s6, s7, s8, s9, s10, s11, s12, s13, s14, s15, s16, s17, s18, s19, s20⟩
      go_simp
      with_reducible rfl
     rotate_left
     ·simp only [Act.put, List.setIfInBounds_toArray, List.set_cons_zero, List.set_cons_succ, i64_w, i32_w]
      rfl
     refine take_ (i := 5) (N := some 16) (v := ?_) (a' := ?_) #[true, true, true, true, true, true, false, false] rfl rfl (take_ofW HT_.out HW_.out (by kernel_rfl)) (fun _ _ _ h => h) (Or.inl ⟨by rfl, ?_⟩) hHeld ?_ ?_
     rotate_left
     ·rintro w' ⟨s0, s1, s2, s3, s4, s5, s6, s7, s8, s9, s10, s11, s12, s13, s14, s15, s16, s17, s18, s19, s20⟩
      go_simp
      with_reducible rfl
     rotate_left
     ·simp only [Act.put, List.setIfInBounds_toArray, List.set_cons_zero, List.set_cons_succ, i64_w, i32_w]
      rfl
     refine one_ (i := 6) (N := some 17) #[true, true, true, true, true, true, true, false] rfl rfl (one_of HT_.out (by kernel_rfl)) (by decide) (fun K hK => ?_)
     refine goes_ Try.func61 (by kernel_rfl) rfl #[.agg #[.int .i64 x348000_1, .int .i64 x348001_1, .int .i64 x348002_1, .bool x348003_1, .int .i64 x348004_1, .string x348005_1, .bool x348006_1, .int .i64 x348007_1, .string x348008_1], .agg #[.int .i64 ((rd_T49 l0 x4_1).f1.f0), .int .i64 ((rd_T49 l0 x4_1).f1.f1), .int .i64 ((rd_T49 l0 x4_1).f1.f2), .bool ((rd_T49 l0 x4_1).f1.f3.f0), .int .i64 ((rd_T49 l0 x4_1).f1.f3.f1), .string ((rd_T49 l0 x4_1).f1.f3.f2), .bool ((rd_T49 l0 x4_1).f1.f4.f0), .int .i64 ((rd_T49 l0 x4_1).f1.f4.f1), .string ((rd_T49 l0 x4_1).f1.f4.f2)]] (by rfl) rfl rfl (by (try simp only [List.map_toArray, List.map_cons, List.map_nil]); first | done | rfl | (simp only [List.length_drop, List.length_take]; rfl)) ?_
     with_reducible refine (tithebarnref18_Join.calls k1 x348000_1 x348001_1 x348002_1 x348003_1 x348004_1 x348005_1 x348006_1 x348007_1 x348008_1 ((rd_T49 l0 x4_1).f1.f0) ((rd_T49 l0 x4_1).f1.f1) ((rd_T49 l0 x4_1).f1.f2) ((rd_T49 l0 x4_1).f1.f3.f0) ((rd_T49 l0 x4_1).f1.f3.f1) ((rd_T49 l0 x4_1).f1.f3.f2) ((rd_T49 l0 x4_1).f1.f4.f0) ((rd_T49 l0 x4_1).f1.f4.f1) ((rd_T49 l0 x4_1).f1.f4.f2) t349 t350 t351 t352 t353 t354 t355 t356 t357 _ A6.out).mono ?_
     rintro e w8 ⟨rfl, hb⟩
     refine ⟨_, rfl, ?_⟩
     have n0_ := Aside0.mk (blk_below (g := gb346) (o := .cells #[.int .i64 0, .int .i64 0, .int .i64 0, .bool false, .int .i64 0, .string (⟨#[]⟩ : ByteArray), .bool false, .int .i64 0, .string (⟨#[]⟩ : ByteArray)] 47 (0, 0)) (by (with_reducible repeat (first | refine blk_drewN ?_ _ | refine blk_drew ?_ | refine blk_alloc ?_ _)); exact BK346.out) hb)
     have n1_ := Aside0.mk (blk_below (g := gb347) (o := .cells #[.int .i64 x348000_1, .int .i64 x348001_1, .int .i64 x348002_1, .bool x348003_1, .int .i64 x348004_1, .string x348005_1, .bool x348006_1, .int .i64 x348007_1, .string x348008_1] 47 (0, 0)) (by (with_reducible repeat (first | refine blk_drewN ?_ _ | refine blk_drew ?_ | refine blk_alloc ?_ _)); exact BK347.out) hb)
     have n2_ := Aside0.mk (below_step (by with_reducible repeat first | exact HB.out | apply below_alloc | apply pw_below_drewN | apply below_drew1 | refine below_set ?_ GE346.out | refine below_set ?_ GE347.out) hb)
     clear BK346
     clear BK347
     clear HB
     have BK346 := n0_
     have BK347 := n1_
     have HB := n2_
     clear n0_ n1_ n2_
     (try clear hb)
     (try clear hb2)
     (try clear hk)
     (try clear hi)
     refine hK.out _ _ ⟨(blk_cell BK347.out 0).trans rfl, (blk_cell BK347.out 1).trans rfl, (blk_cell BK347.out 2).trans rfl, (blk_cell BK347.out 3).trans rfl, (blk_cell BK347.out 4).trans rfl, (blk_cell BK347.out 5).trans rfl, (blk_cell BK347.out 6).trans rfl, (blk_cell BK347.out 7).trans rfl, (blk_cell BK347.out 8).trans rfl, (pw_cell_below HB.out hw348_0), (pw_cell_below HB.out hw348_1), (pw_cell_below HB.out hw348_2), (pw_cell_below HB.out hw348_3), (pw_cell_below HB.out hw348_4), (pw_cell_below HB.out hw348_5), (pw_cell_below HB.out hw348_6), (pw_cell_below HB.out hw348_7), (pw_cell_below HB.out hw348_8), (pw_cell_below HB.out hw348_9), (pw_cell_below HB.out hw348_10), (pw_cell_below HB.out hw348_11)⟩ (fun hHeld => ?_)
     clear hK K
     refine norm_ (a' := ?_) ?_ ?_
     rotate_left
     ·show Act.put _ (some 17) _ = _
      simp only [Act.put, List.setIfInBounds_toArray, List.set_cons_zero, List.set_cons_succ, i64_w, i32_w]
      rfl
     refine last_ (i := 7) (N := none) #[true, true, true, true, true, true, true, true] rfl rfl (one_of HT_.out (by kernel_rfl)) (by decide) (fun K hK => ?_)
     have hs9 : w8.cell? ⟨gb347, 0, none⟩ = some (.int .i64 x348000_1) := (blk_cell BK347.out 0).trans rfl
     have hfs9 := blk_frozen BK347.out 0
     have hns9_0 := NB346_347.out
     have hms9_0 := NB347_346.out
     have hs10 : w8.cell? ⟨gb347, 1, none⟩ = some (.int .i64 x348001_1) := (blk_cell BK347.out 1).trans rfl
     have hfs10 := blk_frozen BK347.out 1
     have hns10_0 := NB346_347.out
     have hms10_0 := NB347_346.out
     have hs11 : w8.cell? ⟨gb347, 2, none⟩ = some (.int .i64 x348002_1) := (blk_cell BK347.out 2).trans rfl
     have hfs11 := blk_frozen BK347.out 2
     have hns11_0 := NB346_347.out
     have hms11_0 := NB347_346.out
     have hs12 : w8.cell? ⟨gb347, 3, none⟩ = some (.bool x348003_1) := (blk_cell BK347.out 3).trans rfl
     have hfs12 := blk_frozen BK347.out 3
     have hns12_0 := NB346_347.out
     have hms12_0 := NB347_346.out
     have hs13 : w8.cell? ⟨gb347, 4, none⟩ = some (.int .i64 x348004_1) := (blk_cell BK347.out 4).trans rfl
     have hfs13 := blk_frozen BK347.out 4
     have hns13_0 := NB346_347.out
     have hms13_0 := NB347_346.out
     have hs14 : w8.cell? ⟨gb347, 5, none⟩ = some (.string x348005_1) := (blk_cell BK347.out 5).trans rfl
     have hfs14 := blk_frozen BK347.out 5
     have hns14_0 := NB346_347.out
     have hms14_0 := NB347_346.out
     have hs15 : w8.cell? ⟨gb347, 6, none⟩ = some (.bool x348006_1) := (blk_cell BK347.out 6).trans rfl
     have hfs15 := blk_frozen BK347.out 6
     have hns15_0 := NB346_347.out
     have hms15_0 := NB347_346.out
     have hs16 : w8.cell? ⟨gb347, 7, none⟩ = some (.int .i64 x348007_1) := (blk_cell BK347.out 7).trans rfl
     have hfs16 := blk_frozen BK347.out 7
     have hns16_0 := NB346_347.out
     have hms16_0 := NB347_346.out
     have hs17 : w8.cell? ⟨gb347, 8, none⟩ = some (.string x348008_1) := (blk_cell BK347.out 8).trans rfl
     have hfs17 := blk_frozen BK347.out 8
     have hns17_0 := NB346_347.out
     have hms17_0 := NB347_346.out
     refine skip_ (w1 := ?_) (by rfl) rfl ?_ ?_
     rotate_left
     ·go_simp
      rfl
     refine hK.out _ _ ?_
     clear hK K
     refine done_ (done_of HT_.out (by kernel_rfl)) ?_
     try go_wp2
     go_roundg k1
     case measure => have := HK1.out; omega
     case rel => exact ⟨(wrap64 (x4_1 + 1)), (t349), (t350), (t351), (t352), (t353), (t354), (t355), (t356), (t357), (by first | rfl | (simp; done) | (simp [*]; done)), H', ⟨by have := HK1.out; omega⟩, ⟨by (iterate 9 (refine blk_far ?_ NB346_347.out _)); (with_reducible repeat (first | refine blk_drewN ?_ _ | refine blk_drew ?_ | refine blk_alloc ?_ _)); exact BK346.out⟩, ⟨by refine blk_put (cs := #[.int .i64 t349, .int .i64 t350, .int .i64 t351, .bool t352, .int .i64 t353, .string t354, .bool t355, .int .i64 t356, .string x348008_1]) ?_ 8 _ rfl; refine blk_put (cs := #[.int .i64 t349, .int .i64 t350, .int .i64 t351, .bool t352, .int .i64 t353, .string t354, .bool t355, .int .i64 x348007_1, .string x348008_1]) ?_ 7 _ rfl; refine blk_put (cs := #[.int .i64 t349, .int .i64 t350, .int .i64 t351, .bool t352, .int .i64 t353, .string t354, .bool x348006_1, .int .i64 x348007_1, .string x348008_1]) ?_ 6 _ rfl; refine blk_put (cs := #[.int .i64 t349, .int .i64 t350, .int .i64 t351, .bool t352, .int .i64 t353, .string x348005_1, .bool x348006_1, .int .i64 x348007_1, .string x348008_1]) ?_ 5 _ rfl; refine blk_put (cs := #[.int .i64 t349, .int .i64 t350, .int .i64 t351, .bool t352, .int .i64 x348004_1, .string x348005_1, .bool x348006_1, .int .i64 x348007_1, .string x348008_1]) ?_ 4 _ rfl; refine blk_put (cs := #[.int .i64 t349, .int .i64 t350, .int .i64 t351, .bool x348003_1, .int .i64 x348004_1, .string x348005_1, .bool x348006_1, .int .i64 x348007_1, .string x348008_1]) ?_ 3 _ rfl; refine blk_put (cs := #[.int .i64 t349, .int .i64 t350, .int .i64 x348002_1, .bool x348003_1, .int .i64 x348004_1, .string x348005_1, .bool x348006_1, .int .i64 x348007_1, .string x348008_1]) ?_ 2 _ rfl; refine blk_put (cs := #[.int .i64 t349, .int .i64 x348001_1, .int .i64 x348002_1, .bool x348003_1, .int .i64 x348004_1, .string x348005_1, .bool x348006_1, .int .i64 x348007_1, .string x348008_1]) ?_ 1 _ rfl; refine blk_put (cs := #[.int .i64 x348000_1, .int .i64 x348001_1, .int .i64 x348002_1, .bool x348003_1, .int .i64 x348004_1, .string x348005_1, .bool x348006_1, .int .i64 x348007_1, .string x348008_1]) ?_ 0 _ rfl; (with_reducible repeat (first | refine blk_drewN ?_ _ | refine blk_drew ?_ | refine blk_alloc ?_ _)); exact BK347.out⟩, ⟨by repeat (first | (with_reducible first | exact HB.out | apply below_alloc | apply pw_below_drewN | apply below_drew1 | refine below_set ?_ GE346.out | refine below_set ?_ GE347.out) | exact HB.out)⟩⟩
    ·rw [if_neg c5] at H
     exact absurd H (by simp)
   ·rw [if_neg c4] at H
    have c4b0 : decide (x4_1 < (l0.length : Int)) = false := decide_eq_false c4
    clear c4
    simp only [Option.some.injEq, Prod.mk.injEq] at H
    obtain ⟨rfl, rfl, rfl, rfl, rfl, rfl, rfl, rfl, rfl⟩ := H
    have hnb18 := NB347_346.out
    have hnc18 := NB346_347.out
    obtain ⟨hcz19_0, hcz19_1, hcz19_2, hcz19_3, hcz19_4, hcz19_5, hcz19_6, hcz19_7, hcz19_8⟩ := bc9 BK347.out
    obtain ⟨hfz19_0, hfz19_1, hfz19_2, hfz19_3, hfz19_4, hfz19_5, hfz19_6, hfz19_7, hfz19_8⟩ := bf9 BK347.out
    obtain ⟨hcz20_0, hcz20_1, hcz20_2, hcz20_3, hcz20_4, hcz20_5, hcz20_6, hcz20_7, hcz20_8⟩ := bc9 BK346.out
    obtain ⟨hfz20_0, hfz20_1, hfz20_2, hfz20_3, hfz20_4, hfz20_5, hfz20_6, hfz20_7, hfz20_8⟩ := bf9 BK346.out
    go_wp2
    refine bodyPost_ret (results_cell_row rfl _ _ gb346 47 #[.int .i64 x348000_1, .int .i64 x348001_1, .int .i64 x348002_1, .bool x348003_1, .int .i64 x348004_1, .string x348005_1, .bool x348006_1, .int .i64 x348007_1, .string x348008_1] (0, 0) _ rfl (by refine blk_put (cs := #[.int .i64 x348000_1, .int .i64 x348001_1, .int .i64 x348002_1, .bool x348003_1, .int .i64 x348004_1, .string x348005_1, .bool x348006_1, .int .i64 x348007_1, .string (⟨#[]⟩ : ByteArray)]) ?_ 8 _ rfl; refine blk_put (cs := #[.int .i64 x348000_1, .int .i64 x348001_1, .int .i64 x348002_1, .bool x348003_1, .int .i64 x348004_1, .string x348005_1, .bool x348006_1, .int .i64 0, .string (⟨#[]⟩ : ByteArray)]) ?_ 7 _ rfl; refine blk_put (cs := #[.int .i64 x348000_1, .int .i64 x348001_1, .int .i64 x348002_1, .bool x348003_1, .int .i64 x348004_1, .string x348005_1, .bool false, .int .i64 0, .string (⟨#[]⟩ : ByteArray)]) ?_ 6 _ rfl; refine blk_put (cs := #[.int .i64 x348000_1, .int .i64 x348001_1, .int .i64 x348002_1, .bool x348003_1, .int .i64 x348004_1, .string (⟨#[]⟩ : ByteArray), .bool false, .int .i64 0, .string (⟨#[]⟩ : ByteArray)]) ?_ 5 _ rfl; refine blk_put (cs := #[.int .i64 x348000_1, .int .i64 x348001_1, .int .i64 x348002_1, .bool x348003_1, .int .i64 0, .string (⟨#[]⟩ : ByteArray), .bool false, .int .i64 0, .string (⟨#[]⟩ : ByteArray)]) ?_ 4 _ rfl; refine blk_put (cs := #[.int .i64 x348000_1, .int .i64 x348001_1, .int .i64 x348002_1, .bool false, .int .i64 0, .string (⟨#[]⟩ : ByteArray), .bool false, .int .i64 0, .string (⟨#[]⟩ : ByteArray)]) ?_ 3 _ rfl; refine blk_put (cs := #[.int .i64 x348000_1, .int .i64 x348001_1, .int .i64 0, .bool false, .int .i64 0, .string (⟨#[]⟩ : ByteArray), .bool false, .int .i64 0, .string (⟨#[]⟩ : ByteArray)]) ?_ 2 _ rfl; refine blk_put (cs := #[.int .i64 x348000_1, .int .i64 0, .int .i64 0, .bool false, .int .i64 0, .string (⟨#[]⟩ : ByteArray), .bool false, .int .i64 0, .string (⟨#[]⟩ : ByteArray)]) ?_ 1 _ rfl; refine blk_put (cs := #[.int .i64 0, .int .i64 0, .int .i64 0, .bool false, .int .i64 0, .string (⟨#[]⟩ : ByteArray), .bool false, .int .i64 0, .string (⟨#[]⟩ : ByteArray)]) ?_ 0 _ rfl; (with_reducible repeat (first | refine blk_drewN ?_ _ | refine blk_drew ?_ | refine blk_alloc ?_ _)); exact BK346.out) Try.underlying47 rfl (by kernel_rfl)) rfl ?_
    exact ⟨by first | rfl | (simp [errW_none, errW_some] <;> rfl) | (simp [*, errW_none, errW_some] <;> rfl), by repeat (first | (with_reducible first | exact HB.out | apply below_alloc | apply pw_below_drewN | apply below_drew1 | refine below_set ?_ GE346.out | refine below_set ?_ GE347.out) | exact HB.out)⟩

end Go.Proofs.Ythlelhndmnkmjaa.Pr
