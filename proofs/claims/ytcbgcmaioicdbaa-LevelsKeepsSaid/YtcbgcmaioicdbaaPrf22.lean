-- printed by xprint.py
import Derived.Test.YtcbgcmaioicdbaaPr0
import Derived.Test.YtcbgcmaioicdbaaPrf20
namespace Go.Proofs.Ytcbgcmaioicdbaa.Pr
open Go.RowKit Go.Proofs.YtcbgcmaioicdbaaW PrintWords PrintLast PrintMore
set_option linter.unusedVariables false
set_option linter.unusedSimpArgs false

/-! ### tithebarnlaw17_well: function 22 -/
def tithebarnlaw17_well.l0 : Nat → List (S38) → Int → Option (Bool)
 | 0, _, _ => none
 | k + 1, x0, x3 => if x3 < (x0.length : Int) then (if 0 ≤ x3 then ((tithebarnref17_Overlap.f ((rd_T38 x0 x3).f0) ((rd_T38 x0 x3).f1) ((rd_T38 x0 x3).f2.f0) ((rd_T38 x0 x3).f2.f1) ((rd_T38 x0 x3).f2.f2) ((rd_T38 x0 x3).f3.f0) ((rd_T38 x0 x3).f3.f1) ((rd_T38 x0 x3).f3.f2) ((rd_T38 x0 x3).f0) ((rd_T38 x0 x3).f1) ((rd_T38 x0 x3).f2.f0) ((rd_T38 x0 x3).f2.f1) ((rd_T38 x0 x3).f2.f2) ((rd_T38 x0 x3).f3.f0) ((rd_T38 x0 x3).f3.f1) ((rd_T38 x0 x3).f3.f2)).bind fun t388 => (if t388 = true then (tithebarnlaw17_well.l0 k x0 (wrap64 (x3 + 1))) else (some false))) else (none)) else (some true)
def tithebarnlaw17_well.f (k : Nat) (l0 : List (S38)) : Option (Bool) := tithebarnlaw17_well.l0 k l0 0
theorem tithebarnlaw17_well.mono_l : ∀ k, (∀ y0 y1, LeO (tithebarnlaw17_well.l0 k y0 y1) (tithebarnlaw17_well.l0 (k + 1) y0 y1))
 | 0 => fun _ _ r h => by simp [tithebarnlaw17_well.l0] at h
 | k + 1 => by
  have ih0 := tithebarnlaw17_well.mono_l k
  ·intro y0 y1
   unfold tithebarnlaw17_well.l0
   repeat' first
   | (with_reducible exact ih0 _ _)
   | (with_reducible exact LeO.refl _)
   | (with_reducible exact LeO.none _)
   | (with_reducible refine LeO.ite ?_ ?_)
   | (with_reducible refine LeO.bind ?_ (fun _ => ?_))
theorem tithebarnlaw17_well.mono : ∀ a0 k, LeO (tithebarnlaw17_well.f k a0) (tithebarnlaw17_well.f (k + 1) a0) := by
 intro a0 k
 have ih0 := tithebarnlaw17_well.mono_l k
 unfold tithebarnlaw17_well.f
 repeat' first
   | (with_reducible exact ih0 _ _)
   | (with_reducible exact LeO.refl _)
   | (with_reducible exact LeO.none _)
   | (with_reducible refine LeO.ite ?_ ?_)
   | (with_reducible refine LeO.bind ?_ (fun _ => ?_))
def tithebarnlaw17_well.T4 : Bool × List (List Nat × List Nat) := (true, [([], []), ([], []), ([0, 1], [0, 1]), ([2], [2]), ([], []), ([], []), ([4, 5], [4, 5]), ([6], [6]), ([3, 7], [3, 7]), ([8], [8])])
def tithebarnlaw17_well.B4 : List Nat := [0, 0, 3, 7, 0, 0, 48, 112, 255, 511]
theorem tithebarnlaw17_well.tab4 : rtab .any (opsOf Try.f22 4) = tithebarnlaw17_well.T4 := by kernel_rfl
theorem tithebarnlaw17_well.bits4 : waitsOk tithebarnlaw17_well.T4.2 tithebarnlaw17_well.B4 = true := by kernel_rfl
set_option maxHeartbeats 8000000 in
set_option maxRecDepth 100000 in
theorem tithebarnlaw17_well.calls (k : Nat) (A0 : Option Addr) (c0 : Nat) (l0 : List (S38)) (r : Bool) (w : World) (hr0 : Kd.C k38 w A0 l0.length l0) (hc0 : l0.length ≤ c0) (h : tithebarnlaw17_well.f k l0 = some r) :
  Calls Try.prog 22 #[.slice A0 l0.length c0] w fun e w' => e = .returned (.bool r) ∧ Below w.heap.size w w' := by
 have hu38 := Try.underlying38
 have HR0 := Aside0.mk hr0
 have HC0 := Aside0.mk hc0
 clear hr0 hc0
 have HB := Aside0.mk (Below.refl w.heap.size w)
 have H : (tithebarnlaw17_well.l0 k l0 0) = some r := h
 clear h
 have H' := Aside0.mk H
 clear H
 go_enter Try.func22, Try.ntmps22
 go_wp2
 go_loopg [3] k (fun kq v3 w' => ∃ (x3_1 : Int), v3 = .int .i64 x3_1 ∧ Aside0 (tithebarnlaw17_well.l0 kq l0 x3_1 = some r) ∧ Aside0 (kq ≤ k) ∧ Aside0 (Below w.heap.size w w'))
 case atStart => exact ⟨(0), (by first | rfl | (simp; done) | (simp [*]; done)), H', ⟨Nat.le_refl _⟩, ⟨by repeat (first | (with_reducible first | exact HB.out | apply below_alloc | apply pw_below_drewN | apply below_drew1) | exact HB.out)⟩⟩
 case round =>
  clear H'
  obtain ⟨x3_1, rfl, HA, HK1, HB⟩ := hrel
  cases gk with
  | zero => exact absurd HA.out (by simp [tithebarnlaw17_well.l0])
  | succ k1 =>
   have H := HA.out
   clear HA
   simp only [tithebarnlaw17_well.l0] at H
   by_cases c2 : x3_1 < (l0.length : Int)
   ·rw [if_pos c2] at H
    have c2b0 : decide (x3_1 < (l0.length : Int)) = true := decide_eq_true c2
    clear c2
    by_cases c3 : 0 ≤ x3_1
    ·rw [if_pos c3] at H
     have c3b0 : decide (0 ≤ x3_1) = true := decide_eq_true c3
     clear c3
     replace H := Option.bind_eq_some_iff.mp H
     obtain ⟨t388, A40, H⟩ := H
     replace H : (if t388 = true then (tithebarnlaw17_well.l0 k1 l0 (wrap64 (x3_1 + 1))) else (some false)) = some r := H
     have A4 := Aside0.mk A40
     clear A40
     by_cases c5 : t388 = true
     ·subst c5
      have H1 : (tithebarnlaw17_well.l0 k1 l0 (wrap64 (x3_1 + 1))) = some r := by rw [if_pos rfl] at H; exact H
      clear H
      have H := H1
      clear H1
      have H' := Aside0.mk H
      clear H
      try go_wp2
      have n0_ := Aside0.mk (below_drew1 HB.out)
      clear HB
      have HB := n0_
      clear n0_
      have p386 : 0 ≤ (x3_1 : Int) := of_decide_eq_true (by with_reducible assumption)
      have q386 : x3_1 < (l0.length : Int) := of_decide_eq_true (by with_reducible assumption)
      obtain ⟨ad386, e386, hx386_0, hx386_1, hx386_2, hx386_3, hx386_4, hx386_5, hx386_6, hx386_7⟩ := at_T38 HR0.out x3_1 p386 q386
      have hw386_7 := hx386_7
      have hw386_6 := hx386_6
      have hw386_5 := hx386_5
      have hw386_4 := hx386_4
      have hw386_3 := hx386_3
      have hw386_2 := hx386_2
      have hw386_1 := hx386_1
      have hw386_0 := hx386_0
      cases e386
      replace hx386_0 := pw_cell_below HB.out hx386_0
      replace hx386_1 := pw_cell_below HB.out hx386_1
      replace hx386_2 := pw_cell_below HB.out hx386_2
      replace hx386_3 := pw_cell_below HB.out hx386_3
      replace hx386_4 := pw_cell_below HB.out hx386_4
      replace hx386_5 := pw_cell_below HB.out hx386_5
      replace hx386_6 := pw_cell_below HB.out hx386_6
      replace hx386_7 := pw_cell_below HB.out hx386_7
      replace p386 := eq_true p386
      replace q386 := eq_true q386
      have p387 : 0 ≤ (x3_1 : Int) := of_decide_eq_true (by with_reducible assumption)
      have q387 : x3_1 < (l0.length : Int) := of_decide_eq_true (by with_reducible assumption)
      obtain ⟨ad387, e387, hx387_0, hx387_1, hx387_2, hx387_3, hx387_4, hx387_5, hx387_6, hx387_7⟩ := at_T38 HR0.out x3_1 p387 q387
      have hw387_7 := hx387_7
      have hw387_6 := hx387_6
      have hw387_5 := hx387_5
      have hw387_4 := hx387_4
      have hw387_3 := hx387_3
      have hw387_2 := hx387_2
      have hw387_1 := hx387_1
      have hw387_0 := hx387_0
      obtain rfl : ad386 = ad387 := (by injection e387)
      replace hx387_0 := pw_cell_below HB.out hx387_0
      replace hx387_1 := pw_cell_below HB.out hx387_1
      replace hx387_2 := pw_cell_below HB.out hx387_2
      replace hx387_3 := pw_cell_below HB.out hx387_3
      replace hx387_4 := pw_cell_below HB.out hx387_4
      replace hx387_5 := pw_cell_below HB.out hx387_5
      replace hx387_6 := pw_cell_below HB.out hx387_6
      replace hx387_7 := pw_cell_below HB.out hx387_7
      replace p387 := eq_true p387
      replace q387 := eq_true q387
      refine start_ (n := 10) (S := fun w' => w'.cell? (ad386.add ((x3_1).toNat * 8)) = some (.int .i64 ((rd_T38 l0 x3_1).f0)) ∧ w'.cell? ⟨(ad386.add ((x3_1).toNat * 8)).block, (ad386.add ((x3_1).toNat * 8)).off + 1, none⟩ = some (.int .i64 ((rd_T38 l0 x3_1).f1)) ∧ w'.cell? ⟨(ad386.add ((x3_1).toNat * 8)).block, (ad386.add ((x3_1).toNat * 8)).off + 2, none⟩ = some (.bool ((rd_T38 l0 x3_1).f2.f0)) ∧ w'.cell? ⟨(ad386.add ((x3_1).toNat * 8)).block, (ad386.add ((x3_1).toNat * 8)).off + 3, none⟩ = some (.int .i64 ((rd_T38 l0 x3_1).f2.f1)) ∧ w'.cell? ⟨(ad386.add ((x3_1).toNat * 8)).block, (ad386.add ((x3_1).toNat * 8)).off + 4, none⟩ = some (.string ((rd_T38 l0 x3_1).f2.f2)) ∧ w'.cell? ⟨(ad386.add ((x3_1).toNat * 8)).block, (ad386.add ((x3_1).toNat * 8)).off + 5, none⟩ = some (.bool ((rd_T38 l0 x3_1).f3.f0)) ∧ w'.cell? ⟨(ad386.add ((x3_1).toNat * 8)).block, (ad386.add ((x3_1).toNat * 8)).off + 6, none⟩ = some (.int .i64 ((rd_T38 l0 x3_1).f3.f1)) ∧ w'.cell? ⟨(ad386.add ((x3_1).toNat * 8)).block, (ad386.add ((x3_1).toNat * 8)).off + 7, none⟩ = some (.string ((rd_T38 l0 x3_1).f3.f2)) ∧ w'.cell? (ad386.add ((x3_1).toNat * 8)) = some (.int .i64 ((rd_T38 l0 x3_1).f0)) ∧ w'.cell? ⟨(ad386.add ((x3_1).toNat * 8)).block, (ad386.add ((x3_1).toNat * 8)).off + 1, none⟩ = some (.int .i64 ((rd_T38 l0 x3_1).f1)) ∧ w'.cell? ⟨(ad386.add ((x3_1).toNat * 8)).block, (ad386.add ((x3_1).toNat * 8)).off + 2, none⟩ = some (.bool ((rd_T38 l0 x3_1).f2.f0)) ∧ w'.cell? ⟨(ad386.add ((x3_1).toNat * 8)).block, (ad386.add ((x3_1).toNat * 8)).off + 3, none⟩ = some (.int .i64 ((rd_T38 l0 x3_1).f2.f1)) ∧ w'.cell? ⟨(ad386.add ((x3_1).toNat * 8)).block, (ad386.add ((x3_1).toNat * 8)).off + 4, none⟩ = some (.string ((rd_T38 l0 x3_1).f2.f2)) ∧ w'.cell? ⟨(ad386.add ((x3_1).toNat * 8)).block, (ad386.add ((x3_1).toNat * 8)).off + 5, none⟩ = some (.bool ((rd_T38 l0 x3_1).f3.f0)) ∧ w'.cell? ⟨(ad386.add ((x3_1).toNat * 8)).block, (ad386.add ((x3_1).toNat * 8)).off + 6, none⟩ = some (.int .i64 ((rd_T38 l0 x3_1).f3.f1)) ∧ w'.cell? ⟨(ad386.add ((x3_1).toNat * 8)).block, (ad386.add ((x3_1).toNat * 8)).off + 7, none⟩ = some (.string ((rd_T38 l0 x3_1).f3.f2))) (ds := []) #[false, false, false, false, false, false, false, false, false, false] (by kernel_rfl) rfl rfl ⟨(pw_cell_below HB.out hw386_0), (pw_cell_below HB.out hw386_1), (pw_cell_below HB.out hw386_2), (pw_cell_below HB.out hw386_3), (pw_cell_below HB.out hw386_4), (pw_cell_below HB.out hw386_5), (pw_cell_below HB.out hw386_6), (pw_cell_below HB.out hw386_7), (pw_cell_below HB.out hw387_0), (pw_cell_below HB.out hw387_1), (pw_cell_below HB.out hw387_2), (pw_cell_below HB.out hw387_3), (pw_cell_below HB.out hw387_4), (pw_cell_below HB.out hw387_5), (pw_cell_below HB.out hw387_6), (pw_cell_below HB.out hw387_7)⟩ (fun hHeld => ?_); refine with_tabW tithebarnlaw17_well.tab4 tithebarnlaw17_well.bits4 (fun HT_ HW_ => ?_)
      generalize wr.drew = w6 at HB hx386_0 hx386_1 hx386_2 hx386_3 hx386_4 hx386_5 hx386_6 hx386_7 hx387_0 hx387_1 hx387_2 hx387_3 hx387_4 hx387_5 hx387_6 hx387_7 hHeld ⊢
      refine pure_ (i := 0) (N := some 10) (v := ?_) (a' := ?_) #[true, false, false, false, false, false, false, false, false, false] rfl rfl (any_of HT_.out (by kernel_rfl)) (fun _ _ _ h => h) (Or.inl ⟨by rfl, ?_⟩) ?_ ?_
      rotate_left
      ·intro w'
       go_simp
       with_reducible rfl
      rotate_left
      ·simp only [Act.put, List.setIfInBounds_toArray, List.set_cons_zero, List.set_cons_succ, i64_w, i32_w]
       rfl
      refine pure_ (i := 1) (N := some 11) (v := ?_) (a' := ?_) #[true, true, false, false, false, false, false, false, false, false] rfl rfl (any_of HT_.out (by kernel_rfl)) (fun _ _ _ h => h) (Or.inl ⟨by rfl, ?_⟩) ?_ ?_
      rotate_left
      ·intro w'
       go_simp
       with_reducible rfl
      rotate_left
      ·simp only [Act.put, List.setIfInBounds_toArray, List.set_cons_zero, List.set_cons_succ, i64_w, i32_w]
       rfl
      refine pure_ (i := 2) (N := some 12) (v := ?_) (a' := ?_) #[true, true, true, false, false, false, false, false, false, false] rfl rfl (any_of HT_.out (by kernel_rfl)) (fun _ _ _ h => h) (Or.inl ⟨by rfl, ?_⟩) ?_ ?_
      rotate_left
      ·intro w'
       go_simp
       with_reducible rfl
      rotate_left
      ·simp only [Act.put, List.setIfInBounds_toArray, List.set_cons_zero, List.set_cons_succ, i64_w, i32_w]
       rfl
      refine pure_ (i := 4) (N := some 14) (v := ?_) (a' := ?_) #[true, true, true, false, true, false, false, false, false, false] rfl rfl (any_of HT_.out (by kernel_rfl)) (fun _ _ _ h => h) (Or.inl ⟨by rfl, ?_⟩) ?_ ?_
      rotate_left
      ·intro w'
       go_simp
       with_reducible rfl
      rotate_left
      ·simp only [Act.put, List.setIfInBounds_toArray, List.set_cons_zero, List.set_cons_succ, i64_w, i32_w]
       rfl
      refine pure_ (i := 5) (N := some 15) (v := ?_) (a' := ?_) #[true, true, true, false, true, true, false, false, false, false] rfl rfl (any_of HT_.out (by kernel_rfl)) (fun _ _ _ h => h) (Or.inl ⟨by rfl, ?_⟩) ?_ ?_
      rotate_left
      ·intro w'
       go_simp
       with_reducible rfl
      rotate_left
      ·simp only [Act.put, List.setIfInBounds_toArray, List.set_cons_zero, List.set_cons_succ, i64_w, i32_w]
       rfl
      refine pure_ (i := 6) (N := some 16) (v := ?_) (a' := ?_) #[true, true, true, false, true, true, true, false, false, false] rfl rfl (any_of HT_.out (by kernel_rfl)) (fun _ _ _ h => h) (Or.inl ⟨by rfl, ?_⟩) ?_ ?_
      rotate_left
      ·intro w'
       go_simp
       with_reducible rfl
      rotate_left
      ·simp only [Act.put, List.setIfInBounds_toArray, List.set_cons_zero, List.set_cons_succ, i64_w, i32_w]
       rfl
      refine take_ (i := 3) (N := some 13) (v := ?_) (a' := ?_) #[true, true, true, true, true, true, true, false, false, false] rfl rfl (take_ofW HT_.out HW_.out (by kernel_rfl)) (fun _ _ _ h => h) (Or.inl ⟨by rfl, ?_⟩) hHeld ?_ ?_
      rotate_left
      ·rintro w' ⟨s0, s1, s2, s3, s4, s5, s6, s7, s8, s9, s10, s11, s12, s13, s14, s15⟩
       go_simp
       with_reducible rfl
      rotate_left
      ·simp only [Act.put, List.setIfInBounds_toArray, List.set_cons_zero, List.set_cons_succ, i64_w, i32_w]
       rfl
      refine take_ (i := 7) (N := some 17) (v := ?_) (a' := ?_) #[true, true, true, true, true, true, true, true, false, false] rfl rfl (take_ofW HT_.out HW_.out (by kernel_rfl)) (fun _ _ _ h => h) (Or.inl ⟨by rfl, ?_⟩) hHeld ?_ ?_
      rotate_left
      ·rintro w' ⟨s0, s1, s2, s3, s4, s5, s6, s7, s8, s9, s10, s11, s12, s13, s14, s15⟩
       go_simp
       with_reducible rfl
      rotate_left
      ·simp only [Act.put, List.setIfInBounds_toArray, List.set_cons_zero, List.set_cons_succ, i64_w, i32_w]
       rfl
      refine one_ (i := 8) (N := some 18) #[true, true, true, true, true, true, true, true, true, false] rfl rfl (one_of HT_.out (by kernel_rfl)) (by decide) (fun K hK => ?_)
      refine goes_ Try.func20 (by kernel_rfl) rfl #[.agg #[.int .i64 ((rd_T38 l0 x3_1).f0), .int .i64 ((rd_T38 l0 x3_1).f1), .bool ((rd_T38 l0 x3_1).f2.f0), .int .i64 ((rd_T38 l0 x3_1).f2.f1), .string ((rd_T38 l0 x3_1).f2.f2), .bool ((rd_T38 l0 x3_1).f3.f0), .int .i64 ((rd_T38 l0 x3_1).f3.f1), .string ((rd_T38 l0 x3_1).f3.f2)], .agg #[.int .i64 ((rd_T38 l0 x3_1).f0), .int .i64 ((rd_T38 l0 x3_1).f1), .bool ((rd_T38 l0 x3_1).f2.f0), .int .i64 ((rd_T38 l0 x3_1).f2.f1), .string ((rd_T38 l0 x3_1).f2.f2), .bool ((rd_T38 l0 x3_1).f3.f0), .int .i64 ((rd_T38 l0 x3_1).f3.f1), .string ((rd_T38 l0 x3_1).f3.f2)]] (by rfl) rfl rfl (by (try simp only [List.map_toArray, List.map_cons, List.map_nil]); first | done | rfl | (simp only [List.length_drop, List.length_take]; rfl)) ?_
      with_reducible refine (tithebarnref17_Overlap.calls ((rd_T38 l0 x3_1).f0) ((rd_T38 l0 x3_1).f1) ((rd_T38 l0 x3_1).f2.f0) ((rd_T38 l0 x3_1).f2.f1) ((rd_T38 l0 x3_1).f2.f2) ((rd_T38 l0 x3_1).f3.f0) ((rd_T38 l0 x3_1).f3.f1) ((rd_T38 l0 x3_1).f3.f2) ((rd_T38 l0 x3_1).f0) ((rd_T38 l0 x3_1).f1) ((rd_T38 l0 x3_1).f2.f0) ((rd_T38 l0 x3_1).f2.f1) ((rd_T38 l0 x3_1).f2.f2) ((rd_T38 l0 x3_1).f3.f0) ((rd_T38 l0 x3_1).f3.f1) ((rd_T38 l0 x3_1).f3.f2) true _ A4.out).mono ?_
      rintro e w7 ⟨rfl, hb⟩
      refine ⟨_, rfl, ?_⟩
      have n0_ := Aside0.mk (below_step (by with_reducible repeat first | exact HB.out | apply below_alloc | apply pw_below_drewN | apply below_drew1) hb)
      clear HB
      have HB := n0_
      clear n0_
      (try clear hb)
      (try clear hb2)
      (try clear hk)
      (try clear hi)
      refine hK.out _ _ ⟨(pw_cell_below HB.out hw386_0), (pw_cell_below HB.out hw386_1), (pw_cell_below HB.out hw386_2), (pw_cell_below HB.out hw386_3), (pw_cell_below HB.out hw386_4), (pw_cell_below HB.out hw386_5), (pw_cell_below HB.out hw386_6), (pw_cell_below HB.out hw386_7), (pw_cell_below HB.out hw387_0), (pw_cell_below HB.out hw387_1), (pw_cell_below HB.out hw387_2), (pw_cell_below HB.out hw387_3), (pw_cell_below HB.out hw387_4), (pw_cell_below HB.out hw387_5), (pw_cell_below HB.out hw387_6), (pw_cell_below HB.out hw387_7)⟩ (fun hHeld => ?_)
      clear hK K
      refine norm_ (a' := ?_) ?_ ?_
      rotate_left
      ·show Act.put _ (some 18) _ = _
       simp only [Act.put, List.setIfInBounds_toArray, List.set_cons_zero, List.set_cons_succ, i64_w, i32_w]
       rfl
      refine pure_ (i := 9) (N := some 19) (v := ?_) (a' := ?_) #[true, true, true, true, true, true, true, true, true, true] rfl rfl (any_of HT_.out (by kernel_rfl)) (fun _ _ _ h => h) (Or.inl ⟨by rfl, ?_⟩) ?_ ?_
      rotate_left
      ·intro w'
       go_simp
       with_reducible rfl
      rotate_left
      ·simp only [Act.put, List.setIfInBounds_toArray, List.set_cons_zero, List.set_cons_succ, i64_w, i32_w]
       rfl
      refine done_ (done_of HT_.out (by kernel_rfl)) ?_
      try go_wp2
      go_roundg k1
      case measure => have := HK1.out; omega
      case rel => exact ⟨(wrap64 (x3_1 + 1)), (by first | rfl | (simp; done) | (simp [*]; done)), H', ⟨by have := HK1.out; omega⟩, ⟨by repeat (first | (with_reducible first | exact HB.out | apply below_alloc | apply pw_below_drewN | apply below_drew1) | exact HB.out)⟩⟩
     ·replace c5 := Bool.eq_false_iff.mpr c5
      subst c5
      have H1 : (some false) = some r := by rw [if_neg (show ¬ (false = true) by decide)] at H; exact H
      clear H
      have H := H1
      clear H1
      obtain rfl := Option.some.inj H
      try go_wp2
      have n0_ := Aside0.mk (below_drew1 HB.out)
      clear HB
      have HB := n0_
      clear n0_
      have p386 : 0 ≤ (x3_1 : Int) := of_decide_eq_true (by with_reducible assumption)
      have q386 : x3_1 < (l0.length : Int) := of_decide_eq_true (by with_reducible assumption)
      obtain ⟨ad386, e386, hx386_0, hx386_1, hx386_2, hx386_3, hx386_4, hx386_5, hx386_6, hx386_7⟩ := at_T38 HR0.out x3_1 p386 q386
      have hw386_7 := hx386_7
      have hw386_6 := hx386_6
      have hw386_5 := hx386_5
      have hw386_4 := hx386_4
      have hw386_3 := hx386_3
      have hw386_2 := hx386_2
      have hw386_1 := hx386_1
      have hw386_0 := hx386_0
      cases e386
      replace hx386_0 := pw_cell_below HB.out hx386_0
      replace hx386_1 := pw_cell_below HB.out hx386_1
      replace hx386_2 := pw_cell_below HB.out hx386_2
      replace hx386_3 := pw_cell_below HB.out hx386_3
      replace hx386_4 := pw_cell_below HB.out hx386_4
      replace hx386_5 := pw_cell_below HB.out hx386_5
      replace hx386_6 := pw_cell_below HB.out hx386_6
      replace hx386_7 := pw_cell_below HB.out hx386_7
      replace p386 := eq_true p386
      replace q386 := eq_true q386
      have p387 : 0 ≤ (x3_1 : Int) := of_decide_eq_true (by with_reducible assumption)
      have q387 : x3_1 < (l0.length : Int) := of_decide_eq_true (by with_reducible assumption)
      obtain ⟨ad387, e387, hx387_0, hx387_1, hx387_2, hx387_3, hx387_4, hx387_5, hx387_6, hx387_7⟩ := at_T38 HR0.out x3_1 p387 q387
      have hw387_7 := hx387_7
      have hw387_6 := hx387_6
      have hw387_5 := hx387_5
      have hw387_4 := hx387_4
      have hw387_3 := hx387_3
      have hw387_2 := hx387_2
      have hw387_1 := hx387_1
      have hw387_0 := hx387_0
      obtain rfl : ad386 = ad387 := (by injection e387)
      replace hx387_0 := pw_cell_below HB.out hx387_0
      replace hx387_1 := pw_cell_below HB.out hx387_1
      replace hx387_2 := pw_cell_below HB.out hx387_2
      replace hx387_3 := pw_cell_below HB.out hx387_3
      replace hx387_4 := pw_cell_below HB.out hx387_4
      replace hx387_5 := pw_cell_below HB.out hx387_5
      replace hx387_6 := pw_cell_below HB.out hx387_6
      replace hx387_7 := pw_cell_below HB.out hx387_7
      replace p387 := eq_true p387
      replace q387 := eq_true q387
      refine start_ (n := 10) (S := fun w' => w'.cell? (ad386.add ((x3_1).toNat * 8)) = some (.int .i64 ((rd_T38 l0 x3_1).f0)) ∧ w'.cell? ⟨(ad386.add ((x3_1).toNat * 8)).block, (ad386.add ((x3_1).toNat * 8)).off + 1, none⟩ = some (.int .i64 ((rd_T38 l0 x3_1).f1)) ∧ w'.cell? ⟨(ad386.add ((x3_1).toNat * 8)).block, (ad386.add ((x3_1).toNat * 8)).off + 2, none⟩ = some (.bool ((rd_T38 l0 x3_1).f2.f0)) ∧ w'.cell? ⟨(ad386.add ((x3_1).toNat * 8)).block, (ad386.add ((x3_1).toNat * 8)).off + 3, none⟩ = some (.int .i64 ((rd_T38 l0 x3_1).f2.f1)) ∧ w'.cell? ⟨(ad386.add ((x3_1).toNat * 8)).block, (ad386.add ((x3_1).toNat * 8)).off + 4, none⟩ = some (.string ((rd_T38 l0 x3_1).f2.f2)) ∧ w'.cell? ⟨(ad386.add ((x3_1).toNat * 8)).block, (ad386.add ((x3_1).toNat * 8)).off + 5, none⟩ = some (.bool ((rd_T38 l0 x3_1).f3.f0)) ∧ w'.cell? ⟨(ad386.add ((x3_1).toNat * 8)).block, (ad386.add ((x3_1).toNat * 8)).off + 6, none⟩ = some (.int .i64 ((rd_T38 l0 x3_1).f3.f1)) ∧ w'.cell? ⟨(ad386.add ((x3_1).toNat * 8)).block, (ad386.add ((x3_1).toNat * 8)).off + 7, none⟩ = some (.string ((rd_T38 l0 x3_1).f3.f2)) ∧ w'.cell? (ad386.add ((x3_1).toNat * 8)) = some (.int .i64 ((rd_T38 l0 x3_1).f0)) ∧ w'.cell? ⟨(ad386.add ((x3_1).toNat * 8)).block, (ad386.add ((x3_1).toNat * 8)).off + 1, none⟩ = some (.int .i64 ((rd_T38 l0 x3_1).f1)) ∧ w'.cell? ⟨(ad386.add ((x3_1).toNat * 8)).block, (ad386.add ((x3_1).toNat * 8)).off + 2, none⟩ = some (.bool ((rd_T38 l0 x3_1).f2.f0)) ∧ w'.cell? ⟨(ad386.add ((x3_1).toNat * 8)).block, (ad386.add ((x3_1).toNat * 8)).off + 3, none⟩ = some (.int .i64 ((rd_T38 l0 x3_1).f2.f1)) ∧ w'.cell? ⟨(ad386.add ((x3_1).toNat * 8)).block, (ad386.add ((x3_1).toNat * 8)).off + 4, none⟩ = some (.string ((rd_T38 l0 x3_1).f2.f2)) ∧ w'.cell? ⟨(ad386.add ((x3_1).toNat * 8)).block, (ad386.add ((x3_1).toNat * 8)).off + 5, none⟩ = some (.bool ((rd_T38 l0 x3_1).f3.f0)) ∧ w'.cell? ⟨(ad386.add ((x3_1).toNat * 8)).block, (ad386.add ((x3_1).toNat * 8)).off + 6, none⟩ = some (.int .i64 ((rd_T38 l0 x3_1).f3.f1)) ∧ w'.cell? ⟨(ad386.add ((x3_1).toNat * 8)).block, (ad386.add ((x3_1).toNat * 8)).off + 7, none⟩ = some (.string ((rd_T38 l0 x3_1).f3.f2))) (ds := []) #[false, false, false, false, false, false, false, false, false, false] (by kernel_rfl) rfl rfl ⟨(pw_cell_below HB.out hw386_0), (pw_cell_below HB.out hw386_1), (pw_cell_below HB.out hw386_2), (pw_cell_below HB.out hw386_3), (pw_cell_below HB.out hw386_4), (pw_cell_below HB.out hw386_5), (pw_cell_below HB.out hw386_6), (pw_cell_below HB.out hw386_7), (pw_cell_below HB.out hw387_0), (pw_cell_below HB.out hw387_1), (pw_cell_below HB.out hw387_2), (pw_cell_below HB.out hw387_3), (pw_cell_below HB.out hw387_4), (pw_cell_below HB.out hw387_5), (pw_cell_below HB.out hw387_6), (pw_cell_below HB.out hw387_7)⟩ (fun hHeld => ?_); refine with_tabW tithebarnlaw17_well.tab4 tithebarnlaw17_well.bits4 (fun HT_ HW_ => ?_)
      generalize wr.drew = w8 at HB hx386_0 hx386_1 hx386_2 hx386_3 hx386_4 hx386_5 hx386_6 hx386_7 hx387_0 hx387_1 hx387_2 hx387_3 hx387_4 hx387_5 hx387_6 hx387_7 hHeld ⊢
      refine pure_ (i := 0) (N := some 10) (v := ?_) (a' := ?_) #[true, false, false, false, false, false, false, false, false, false] rfl rfl (any_of HT_.out (by kernel_rfl)) (fun _ _ _ h => h) (Or.inl ⟨by rfl, ?_⟩) ?_ ?_
      rotate_left
      ·intro w'
       go_simp
       with_reducible rfl
      rotate_left
      ·simp only [Act.put, List.setIfInBounds_toArray, List.set_cons_zero, List.set_cons_succ, i64_w, i32_w]
       rfl
      refine pure_ (i := 1) (N := some 11) (v := ?_) (a' := ?_) #[true, true, false, false, false, false, false, false, false, false] rfl rfl (any_of HT_.out (by kernel_rfl)) (fun _ _ _ h => h) (Or.inl ⟨by rfl, ?_⟩) ?_ ?_
      rotate_left
      ·intro w'
       go_simp
       with_reducible rfl
      rotate_left
      ·simp only [Act.put, List.setIfInBounds_toArray, List.set_cons_zero, List.set_cons_succ, i64_w, i32_w]
       rfl
      refine pure_ (i := 2) (N := some 12) (v := ?_) (a' := ?_) #[true, true, true, false, false, false, false, false, false, false] rfl rfl (any_of HT_.out (by kernel_rfl)) (fun _ _ _ h => h) (Or.inl ⟨by rfl, ?_⟩) ?_ ?_
      rotate_left
      ·intro w'
       go_simp
       with_reducible rfl
      rotate_left
      ·simp only [Act.put, List.setIfInBounds_toArray, List.set_cons_zero, List.set_cons_succ, i64_w, i32_w]
       rfl
      refine pure_ (i := 4) (N := some 14) (v := ?_) (a' := ?_) #[true, true, true, false, true, false, false, false, false, false] rfl rfl (any_of HT_.out (by kernel_rfl)) (fun _ _ _ h => h) (Or.inl ⟨by rfl, ?_⟩) ?_ ?_
      rotate_left
      ·intro w'
       go_simp
       with_reducible rfl
      rotate_left
      ·simp only [Act.put, List.setIfInBounds_toArray, List.set_cons_zero, List.set_cons_succ, i64_w, i32_w]
       rfl
      refine pure_ (i := 5) (N := some 15) (v := ?_) (a' := ?_) #[true, true, true, false, true, true, false, false, false, false] rfl rfl (any_of HT_.out (by kernel_rfl)) (fun _ _ _ h => h) (Or.inl ⟨by rfl, ?_⟩) ?_ ?_
      rotate_left
      ·intro w'
       go_simp
       with_reducible rfl
      rotate_left
      ·simp only [Act.put, List.setIfInBounds_toArray, List.set_cons_zero, List.set_cons_succ, i64_w, i32_w]
       rfl
      refine pure_ (i := 6) (N := some 16) (v := ?_) (a' := ?_) #[true, true, true, false, true, true, true, false, false, false] rfl rfl (any_of HT_.out (by kernel_rfl)) (fun _ _ _ h => h) (Or.inl ⟨by rfl, ?_⟩) ?_ ?_
      rotate_left
      ·intro w'
       go_simp
       with_reducible rfl
      rotate_left
      ·simp only [Act.put, List.setIfInBounds_toArray, List.set_cons_zero, List.set_cons_succ, i64_w, i32_w]
       rfl
      refine take_ (i := 3) (N := some 13) (v := ?_) (a' := ?_) #[true, true, true, true, true, true, true, false, false, false] rfl rfl (take_ofW HT_.out HW_.out (by kernel_rfl)) (fun _ _ _ h => h) (Or.inl ⟨by rfl, ?_⟩) hHeld ?_ ?_
      rotate_left
      ·rintro w' ⟨s0, s1, s2, s3, s4, s5, s6, s7, s8, s9, s10, s11, s12, s13, s14, s15⟩
       go_simp
       with_reducible rfl
      rotate_left
      ·simp only [Act.put, List.setIfInBounds_toArray, List.set_cons_zero, List.set_cons_succ, i64_w, i32_w]
       rfl
      refine take_ (i := 7) (N := some 17) (v := ?_) (a' := ?_) #[true, true, true, true, true, true, true, true, false, false] rfl rfl (take_ofW HT_.out HW_.out (by kernel_rfl)) (fun _ _ _ h => h) (Or.inl ⟨by rfl, ?_⟩) hHeld ?_ ?_
      rotate_left
      ·rintro w' ⟨s0, s1, s2, s3, s4, s5, s6, s7, s8, s9, s10, s11, s12, s13, s14, s15⟩
       go_simp
       with_reducible rfl
      rotate_left
      ·simp only [Act.put, List.setIfInBounds_toArray, List.set_cons_zero, List.set_cons_succ, i64_w, i32_w]
       rfl
      refine one_ (i := 8) (N := some 18) #[true, true, true, true, true, true, true, true, true, false] rfl rfl (one_of HT_.out (by kernel_rfl)) (by decide) (fun K hK => ?_)
      refine goes_ Try.func20 (by kernel_rfl) rfl #[.agg #[.int .i64 ((rd_T38 l0 x3_1).f0), .int .i64 ((rd_T38 l0 x3_1).f1), .bool ((rd_T38 l0 x3_1).f2.f0), .int .i64 ((rd_T38 l0 x3_1).f2.f1), .string ((rd_T38 l0 x3_1).f2.f2), .bool ((rd_T38 l0 x3_1).f3.f0), .int .i64 ((rd_T38 l0 x3_1).f3.f1), .string ((rd_T38 l0 x3_1).f3.f2)], .agg #[.int .i64 ((rd_T38 l0 x3_1).f0), .int .i64 ((rd_T38 l0 x3_1).f1), .bool ((rd_T38 l0 x3_1).f2.f0), .int .i64 ((rd_T38 l0 x3_1).f2.f1), .string ((rd_T38 l0 x3_1).f2.f2), .bool ((rd_T38 l0 x3_1).f3.f0), .int .i64 ((rd_T38 l0 x3_1).f3.f1), .string ((rd_T38 l0 x3_1).f3.f2)]] (by rfl) rfl rfl (by (try simp only [List.map_toArray, List.map_cons, List.map_nil]); first | done | rfl | (simp only [List.length_drop, List.length_take]; rfl)) ?_
      with_reducible refine (tithebarnref17_Overlap.calls ((rd_T38 l0 x3_1).f0) ((rd_T38 l0 x3_1).f1) ((rd_T38 l0 x3_1).f2.f0) ((rd_T38 l0 x3_1).f2.f1) ((rd_T38 l0 x3_1).f2.f2) ((rd_T38 l0 x3_1).f3.f0) ((rd_T38 l0 x3_1).f3.f1) ((rd_T38 l0 x3_1).f3.f2) ((rd_T38 l0 x3_1).f0) ((rd_T38 l0 x3_1).f1) ((rd_T38 l0 x3_1).f2.f0) ((rd_T38 l0 x3_1).f2.f1) ((rd_T38 l0 x3_1).f2.f2) ((rd_T38 l0 x3_1).f3.f0) ((rd_T38 l0 x3_1).f3.f1) ((rd_T38 l0 x3_1).f3.f2) false _ A4.out).mono ?_
      rintro e w9 ⟨rfl, hb⟩
      refine ⟨_, rfl, ?_⟩
      have n0_ := Aside0.mk (below_step (by with_reducible repeat first | exact HB.out | apply below_alloc | apply pw_below_drewN | apply below_drew1) hb)
      clear HB
      have HB := n0_
      clear n0_
      (try clear hb)
      (try clear hb2)
      (try clear hk)
      (try clear hi)
      refine hK.out _ _ ⟨(pw_cell_below HB.out hw386_0), (pw_cell_below HB.out hw386_1), (pw_cell_below HB.out hw386_2), (pw_cell_below HB.out hw386_3), (pw_cell_below HB.out hw386_4), (pw_cell_below HB.out hw386_5), (pw_cell_below HB.out hw386_6), (pw_cell_below HB.out hw386_7), (pw_cell_below HB.out hw387_0), (pw_cell_below HB.out hw387_1), (pw_cell_below HB.out hw387_2), (pw_cell_below HB.out hw387_3), (pw_cell_below HB.out hw387_4), (pw_cell_below HB.out hw387_5), (pw_cell_below HB.out hw387_6), (pw_cell_below HB.out hw387_7)⟩ (fun hHeld => ?_)
      clear hK K
      refine norm_ (a' := ?_) ?_ ?_
      rotate_left
      ·show Act.put _ (some 18) _ = _
       simp only [Act.put, List.setIfInBounds_toArray, List.set_cons_zero, List.set_cons_succ, i64_w, i32_w]
       rfl
      refine pure_ (i := 9) (N := some 19) (v := ?_) (a' := ?_) #[true, true, true, true, true, true, true, true, true, true] rfl rfl (any_of HT_.out (by kernel_rfl)) (fun _ _ _ h => h) (Or.inl ⟨by rfl, ?_⟩) ?_ ?_
      rotate_left
      ·intro w'
       go_simp
       with_reducible rfl
      rotate_left
      ·simp only [Act.put, List.setIfInBounds_toArray, List.set_cons_zero, List.set_cons_succ, i64_w, i32_w]
       rfl
      refine done_ (done_of HT_.out (by kernel_rfl)) ?_
      try go_wp2
      go_ret
      exact ⟨by first | rfl | (simp [errW_none, errW_some] <;> rfl) | (simp [*, errW_none, errW_some] <;> rfl), by repeat (first | (with_reducible first | exact HB.out | apply below_alloc | apply pw_below_drewN | apply below_drew1) | exact HB.out)⟩
    ·rw [if_neg c3] at H
     exact absurd H (by simp)
   ·rw [if_neg c2] at H
    have c2b0 : decide (x3_1 < (l0.length : Int)) = false := decide_eq_false c2
    clear c2
    obtain rfl := Option.some.inj H
    go_wp2
    go_ret
    exact ⟨by first | rfl | (simp [errW_none, errW_some] <;> rfl) | (simp [*, errW_none, errW_some] <;> rfl), by repeat (first | (with_reducible first | exact HB.out | apply below_alloc | apply pw_below_drewN | apply below_drew1) | exact HB.out)⟩

end Go.Proofs.Ytcbgcmaioicdbaa.Pr
