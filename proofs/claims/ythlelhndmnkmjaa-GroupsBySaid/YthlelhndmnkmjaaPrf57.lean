-- printed by xprint.py
import Derived.Test.YthlelhndmnkmjaaPr0
import Derived.Test.YthlelhndmnkmjaaPrf60
import Derived.Test.YthlelhndmnkmjaaPrf56
namespace Go.Proofs.Ythlelhndmnkmjaa.Pr
open Go.RowKit Go.Proofs.YthlelhndmnkmjaaW PrintWords PrintLast PrintMore
set_option linter.unusedVariables false
set_option linter.unusedSimpArgs false

/-! ### groups_gather: function 57 -/
def groups_gather.l0 : Nat → List (S49) → List (S49) → Int → Int → Option ((List (S49)))
 | 0, _, _, _, _ => none
 | k + 1, x3, x7, x8, x9 => if x9 < x8 then (if 0 ≤ x9 then (if x9 < (x7.length : Int) then (if (wrap64 ((x3.length : Int) - 1)) ≥ 0 then (if 0 ≤ (wrap64 ((x3.length : Int) - 1)) then (if (wrap64 ((x3.length : Int) - 1)) < (x3.length : Int) then ((groups_byKey.f ((rd_T49 x3 (wrap64 ((x3.length : Int) - 1))).f0.f0) ((rd_T49 x3 (wrap64 ((x3.length : Int) - 1))).f0.f1) ((rd_T49 x3 (wrap64 ((x3.length : Int) - 1))).f0.f2) ((rd_T49 x3 (wrap64 ((x3.length : Int) - 1))).f1.f0) ((rd_T49 x3 (wrap64 ((x3.length : Int) - 1))).f1.f1) ((rd_T49 x3 (wrap64 ((x3.length : Int) - 1))).f1.f2) ((rd_T49 x3 (wrap64 ((x3.length : Int) - 1))).f1.f3.f0) ((rd_T49 x3 (wrap64 ((x3.length : Int) - 1))).f1.f3.f1) ((rd_T49 x3 (wrap64 ((x3.length : Int) - 1))).f1.f3.f2) ((rd_T49 x3 (wrap64 ((x3.length : Int) - 1))).f1.f4.f0) ((rd_T49 x3 (wrap64 ((x3.length : Int) - 1))).f1.f4.f1) ((rd_T49 x3 (wrap64 ((x3.length : Int) - 1))).f1.f4.f2) ((rd_T49 x7 x9).f0.f0) ((rd_T49 x7 x9).f0.f1) ((rd_T49 x7 x9).f0.f2) ((rd_T49 x7 x9).f1.f0) ((rd_T49 x7 x9).f1.f1) ((rd_T49 x7 x9).f1.f2) ((rd_T49 x7 x9).f1.f3.f0) ((rd_T49 x7 x9).f1.f3.f1) ((rd_T49 x7 x9).f1.f3.f2) ((rd_T49 x7 x9).f1.f4.f0) ((rd_T49 x7 x9).f1.f4.f1) ((rd_T49 x7 x9).f1.f4.f2)).bind fun t162 => (if t162 = 0 then ((sums_Join_c.f ((rd_T49 x3 (wrap64 ((x3.length : Int) - 1))).f1.f0) ((rd_T49 x3 (wrap64 ((x3.length : Int) - 1))).f1.f1) ((rd_T49 x3 (wrap64 ((x3.length : Int) - 1))).f1.f2) ((rd_T49 x3 (wrap64 ((x3.length : Int) - 1))).f1.f3.f0) ((rd_T49 x3 (wrap64 ((x3.length : Int) - 1))).f1.f3.f1) ((rd_T49 x3 (wrap64 ((x3.length : Int) - 1))).f1.f3.f2) ((rd_T49 x3 (wrap64 ((x3.length : Int) - 1))).f1.f4.f0) ((rd_T49 x3 (wrap64 ((x3.length : Int) - 1))).f1.f4.f1) ((rd_T49 x3 (wrap64 ((x3.length : Int) - 1))).f1.f4.f2) ((rd_T49 x7 x9).f1.f0) ((rd_T49 x7 x9).f1.f1) ((rd_T49 x7 x9).f1.f2) ((rd_T49 x7 x9).f1.f3.f0) ((rd_T49 x7 x9).f1.f3.f1) ((rd_T49 x7 x9).f1.f3.f2) ((rd_T49 x7 x9).f1.f4.f0) ((rd_T49 x7 x9).f1.f4.f1) ((rd_T49 x7 x9).f1.f4.f2)).bind fun bt164 => (groups_gather.l0 k (x3.set ((wrap64 ((x3.length : Int) - 1)) : Int).toNat (⟨(⟨(rd_T49 x3 (wrap64 ((x3.length : Int) - 1))).f0.f0, (rd_T49 x3 (wrap64 ((x3.length : Int) - 1))).f0.f1, (rd_T49 x3 (wrap64 ((x3.length : Int) - 1))).f0.f2⟩ : S37), (⟨bt164.1, bt164.2.1, bt164.2.2.1, (⟨bt164.2.2.2.1, bt164.2.2.2.2.1, bt164.2.2.2.2.2.1⟩ : S37), (⟨bt164.2.2.2.2.2.2.1, bt164.2.2.2.2.2.2.2.1, bt164.2.2.2.2.2.2.2.2⟩ : S37)⟩ : S47)⟩ : S49)) x7 x8 (wrap64 (x9 + 1)))) else (if x3.length < 1172812402961 then (groups_gather.l0 k (x3 ++ [(⟨(⟨(rd_T49 x7 x9).f0.f0, (rd_T49 x7 x9).f0.f1, (rd_T49 x7 x9).f0.f2⟩ : S37), (⟨(rd_T49 x7 x9).f1.f0, (rd_T49 x7 x9).f1.f1, (rd_T49 x7 x9).f1.f2, (⟨(rd_T49 x7 x9).f1.f3.f0, (rd_T49 x7 x9).f1.f3.f1, (rd_T49 x7 x9).f1.f3.f2⟩ : S37), (⟨(rd_T49 x7 x9).f1.f4.f0, (rd_T49 x7 x9).f1.f4.f1, (rd_T49 x7 x9).f1.f4.f2⟩ : S37)⟩ : S47)⟩ : S49)]) x7 x8 (wrap64 (x9 + 1))) else (none)))) else (none)) else (none)) else (if x3.length < 1172812402961 then (groups_gather.l0 k (x3 ++ [(⟨(⟨(rd_T49 x7 x9).f0.f0, (rd_T49 x7 x9).f0.f1, (rd_T49 x7 x9).f0.f2⟩ : S37), (⟨(rd_T49 x7 x9).f1.f0, (rd_T49 x7 x9).f1.f1, (rd_T49 x7 x9).f1.f2, (⟨(rd_T49 x7 x9).f1.f3.f0, (rd_T49 x7 x9).f1.f3.f1, (rd_T49 x7 x9).f1.f3.f2⟩ : S37), (⟨(rd_T49 x7 x9).f1.f4.f0, (rd_T49 x7 x9).f1.f4.f1, (rd_T49 x7 x9).f1.f4.f2⟩ : S37)⟩ : S47)⟩ : S49)]) x7 x8 (wrap64 (x9 + 1))) else (none))) else (none)) else (none)) else (some x3)
def groups_gather.f (k : Nat) (l0 : List (S49)) : Option ((List (S49))) := groups_gather.l0 k ([] : List (S49)) l0 (l0.length : Int) 0
theorem groups_gather.mono_l : ∀ k, (∀ y0 y1 y2 y3, LeO (groups_gather.l0 k y0 y1 y2 y3) (groups_gather.l0 (k + 1) y0 y1 y2 y3))
 | 0 => fun _ _ _ _ r h => by simp [groups_gather.l0] at h
 | k + 1 => by
  have ih0 := groups_gather.mono_l k
  ·intro y0 y1 y2 y3
   unfold groups_gather.l0
   repeat' first
   | (with_reducible exact ih0 _ _ _ _)
   | (with_reducible exact LeO.refl _)
   | (with_reducible exact LeO.none _)
   | (with_reducible refine LeO.ite ?_ ?_)
   | (with_reducible refine LeO.bind ?_ (fun _ => ?_))
theorem groups_gather.mono : ∀ a0 k, LeO (groups_gather.f k a0) (groups_gather.f (k + 1) a0) := by
 intro a0 k
 have ih0 := groups_gather.mono_l k
 unfold groups_gather.f
 repeat' first
   | (with_reducible exact ih0 _ _ _ _)
   | (with_reducible exact LeO.refl _)
   | (with_reducible exact LeO.none _)
   | (with_reducible refine LeO.ite ?_ ?_)
   | (with_reducible refine LeO.bind ?_ (fun _ => ?_))
def groups_gather.T6 : Bool × List (List Nat × List Nat) := (true, [([], []), ([0], [0]), ([1], [1]), ([2], [2]), ([2], [2]), ([3, 4, 2], [2, 3, 4]), ([5, 2], [2, 5]), ([2], [2]), ([6, 7, 2, 2], [2, 6, 7]), ([8, 2], [2, 8]), ([2, 9], [2, 9])])
def groups_gather.B6 : List Nat := [0, 1, 3, 7, 7, 31, 63, 7, 255, 511, 1023]
theorem groups_gather.tab6 : rtab .any (opsOf Try.f57 6) = groups_gather.T6 := by kernel_rfl
theorem groups_gather.bits6 : waitsOk groups_gather.T6.2 groups_gather.B6 = true := by kernel_rfl
def groups_gather.T7 : Bool × List (List Nat × List Nat) := (true, [([], []), ([], []), ([], []), ([], []), ([2, 3], [2, 3]), ([4], [4]), ([5], [5]), ([], []), ([7], [7]), ([6, 8], [6, 8]), ([0, 1, 0, 1, 2, 3, 4, 5, 6, 7, 8, 9], [0, 1]), ([10, 0, 1, 2, 3, 4, 5, 6, 7, 8, 9], [10]), ([11, 9, 9, 0, 1, 2, 3, 4, 5, 6, 7, 8, 9], [9, 11])])
def groups_gather.B7 : List Nat := [0, 0, 0, 0, 12, 28, 60, 0, 128, 508, 1023, 2047, 4095]
theorem groups_gather.tab7 : rtab .any (opsOf Try.f57 7) = groups_gather.T7 := by kernel_rfl
theorem groups_gather.bits7 : waitsOk groups_gather.T7.2 groups_gather.B7 = true := by kernel_rfl
set_option maxHeartbeats 8000000 in
set_option maxRecDepth 100000 in
theorem groups_gather.calls (k : Nat) (A0 : Option Addr) (c0 : Nat) (l0 : List (S49)) (r : List (S49)) (w : World) (hr0 : Kd.C k49 w A0 l0.length l0) (hc0 : l0.length ≤ c0) (h : groups_gather.f k l0 = some r) :
  Calls Try.prog 57 #[.slice A0 l0.length c0] w fun e w' => ∃ v0_ : Value, e = .returned (v0_) ∧ Kd.R k49 49 w' w.heap.size (fun _ => True) v0_ r ∧ Below w.heap.size w w' := by
 have hu49 := Try.underlying49
 have hu47 := Try.underlying47
 have HR0 := Aside0.mk hr0
 have HC0 := Aside0.mk hc0
 clear hr0 hc0
 have HB := Aside0.mk (Below.refl w.heap.size w)
 have H : (groups_gather.l0 k ([] : List (S49)) l0 (l0.length : Int) 0) = some r := h
 clear h
 have H' := Aside0.mk H
 clear H
 go_enter Try.func57, Try.ntmps57
 go_wp2
 go_loopg [3, 9] k (fun kq v3 v9 w' => ∃ (x3_1 : List (S49)) (x9_1 : Int), v9 = .int .i64 x9_1 ∧ Aside0 (groups_gather.l0 kq x3_1 l0 (l0.length : Int) x9_1 = some r) ∧ Aside0 (kq ≤ k) ∧ Aside0 (Kd.R k49 49 w' w.heap.size (fun _ => True) v3 x3_1) ∧ Aside0 (Below w.heap.size w w'))
 case atStart => exact ⟨(([] : List (S49))), (0), (by first | rfl | (simp; done) | (simp [*]; done)), H', ⟨Nat.le_refl _⟩, ⟨by first | exact Kd.R_nil _ _ _ _ _ | exact Kd.N_nil _ _ _ _ _ | exact Kd.V_nil _ _ _ _ _ | exact Kd.Q_nil _ _ _ _ _ | exact Kd.S_nil _ _ _ _ _⟩, ⟨by repeat (first | (with_reducible first | exact HB.out | apply below_alloc | apply pw_below_drewN | apply below_drew1) | exact HB.out)⟩⟩
 case round =>
  clear H'
  obtain ⟨x3_1, x9_1, rfl, HA, HK1, HO_3, HB⟩ := hrel
  cases gk with
  | zero => exact absurd HA.out (by simp [groups_gather.l0])
  | succ k1 =>
   have H := HA.out
   clear HA
   simp only [groups_gather.l0] at H
   by_cases c2 : x9_1 < (l0.length : Int)
   ·rw [if_pos c2] at H
    have c2b0 : decide (x9_1 < (l0.length : Int)) = true := decide_eq_true c2
    clear c2
    by_cases c3 : 0 ≤ x9_1
    ·rw [if_pos c3] at H
     have c3b0 : decide (0 ≤ x9_1) = true := decide_eq_true c3
     clear c3
     by_cases c4 : x9_1 < (l0.length : Int)
     ·rw [if_pos c4] at H
      have c4b0 : decide (x9_1 < (l0.length : Int)) = true := decide_eq_true c4
      clear c4
      by_cases c5 : (wrap64 ((x3_1.length : Int) - 1)) ≥ 0
      ·rw [if_pos c5] at H
       have c5b0 : decide (0 ≤ (wrap64 ((x3_1.length : Int) - 1))) = true := decide_eq_true c5
       clear c5
       obtain ⟨ji6, hji6⟩ : ∃ j_ : Int, (wrap64 ((x3_1.length : Int) - 1)) = j_ := ⟨_, rfl⟩
       replace H : (if 0 ≤ (ji6) then (if (ji6) < (x3_1.length : Int) then ((groups_byKey.f ((rd_T49 x3_1 (ji6)).f0.f0) ((rd_T49 x3_1 (ji6)).f0.f1) ((rd_T49 x3_1 (ji6)).f0.f2) ((rd_T49 x3_1 (ji6)).f1.f0) ((rd_T49 x3_1 (ji6)).f1.f1) ((rd_T49 x3_1 (ji6)).f1.f2) ((rd_T49 x3_1 (ji6)).f1.f3.f0) ((rd_T49 x3_1 (ji6)).f1.f3.f1) ((rd_T49 x3_1 (ji6)).f1.f3.f2) ((rd_T49 x3_1 (ji6)).f1.f4.f0) ((rd_T49 x3_1 (ji6)).f1.f4.f1) ((rd_T49 x3_1 (ji6)).f1.f4.f2) ((rd_T49 l0 x9_1).f0.f0) ((rd_T49 l0 x9_1).f0.f1) ((rd_T49 l0 x9_1).f0.f2) ((rd_T49 l0 x9_1).f1.f0) ((rd_T49 l0 x9_1).f1.f1) ((rd_T49 l0 x9_1).f1.f2) ((rd_T49 l0 x9_1).f1.f3.f0) ((rd_T49 l0 x9_1).f1.f3.f1) ((rd_T49 l0 x9_1).f1.f3.f2) ((rd_T49 l0 x9_1).f1.f4.f0) ((rd_T49 l0 x9_1).f1.f4.f1) ((rd_T49 l0 x9_1).f1.f4.f2)).bind fun t162 => (if t162 = 0 then ((sums_Join_c.f ((rd_T49 x3_1 (ji6)).f1.f0) ((rd_T49 x3_1 (ji6)).f1.f1) ((rd_T49 x3_1 (ji6)).f1.f2) ((rd_T49 x3_1 (ji6)).f1.f3.f0) ((rd_T49 x3_1 (ji6)).f1.f3.f1) ((rd_T49 x3_1 (ji6)).f1.f3.f2) ((rd_T49 x3_1 (ji6)).f1.f4.f0) ((rd_T49 x3_1 (ji6)).f1.f4.f1) ((rd_T49 x3_1 (ji6)).f1.f4.f2) ((rd_T49 l0 x9_1).f1.f0) ((rd_T49 l0 x9_1).f1.f1) ((rd_T49 l0 x9_1).f1.f2) ((rd_T49 l0 x9_1).f1.f3.f0) ((rd_T49 l0 x9_1).f1.f3.f1) ((rd_T49 l0 x9_1).f1.f3.f2) ((rd_T49 l0 x9_1).f1.f4.f0) ((rd_T49 l0 x9_1).f1.f4.f1) ((rd_T49 l0 x9_1).f1.f4.f2)).bind fun bt164 => (groups_gather.l0 k1 (x3_1.set ((ji6) : Int).toNat (⟨(⟨(rd_T49 x3_1 (ji6)).f0.f0, (rd_T49 x3_1 (ji6)).f0.f1, (rd_T49 x3_1 (ji6)).f0.f2⟩ : S37), (⟨bt164.1, bt164.2.1, bt164.2.2.1, (⟨bt164.2.2.2.1, bt164.2.2.2.2.1, bt164.2.2.2.2.2.1⟩ : S37), (⟨bt164.2.2.2.2.2.2.1, bt164.2.2.2.2.2.2.2.1, bt164.2.2.2.2.2.2.2.2⟩ : S37)⟩ : S47)⟩ : S49)) l0 (l0.length : Int) (wrap64 (x9_1 + 1)))) else (if x3_1.length < 1172812402961 then (groups_gather.l0 k1 (x3_1 ++ [(⟨(⟨(rd_T49 l0 x9_1).f0.f0, (rd_T49 l0 x9_1).f0.f1, (rd_T49 l0 x9_1).f0.f2⟩ : S37), (⟨(rd_T49 l0 x9_1).f1.f0, (rd_T49 l0 x9_1).f1.f1, (rd_T49 l0 x9_1).f1.f2, (⟨(rd_T49 l0 x9_1).f1.f3.f0, (rd_T49 l0 x9_1).f1.f3.f1, (rd_T49 l0 x9_1).f1.f3.f2⟩ : S37), (⟨(rd_T49 l0 x9_1).f1.f4.f0, (rd_T49 l0 x9_1).f1.f4.f1, (rd_T49 l0 x9_1).f1.f4.f2⟩ : S37)⟩ : S47)⟩ : S49)]) l0 (l0.length : Int) (wrap64 (x9_1 + 1))) else (none)))) else (none)) else (none)) = some r := by first | (rw [hji6] at H; exact H) | (simp only [hji6] at H ⊢; exact H)
       (try rw [hji6] at c5b0)
       have hji6w : (IntKind.i64.wrap ((x3_1.length : Int) - 1)) = ji6 := (i64_w _).trans hji6
       by_cases c7 : 0 ≤ (ji6)
       ·rw [if_pos c7] at H
        have c7b0 : decide (0 ≤ (ji6)) = true := decide_eq_true c7
        clear c7
        by_cases c8 : (ji6) < (x3_1.length : Int)
        ·rw [if_pos c8] at H
         have c8b0 : decide ((ji6) < (x3_1.length : Int)) = true := decide_eq_true c8
         clear c8
         replace H := Option.bind_eq_some_iff.mp H
         obtain ⟨t162, A90, H⟩ := H
         replace H : (if t162 = 0 then ((sums_Join_c.f ((rd_T49 x3_1 (ji6)).f1.f0) ((rd_T49 x3_1 (ji6)).f1.f1) ((rd_T49 x3_1 (ji6)).f1.f2) ((rd_T49 x3_1 (ji6)).f1.f3.f0) ((rd_T49 x3_1 (ji6)).f1.f3.f1) ((rd_T49 x3_1 (ji6)).f1.f3.f2) ((rd_T49 x3_1 (ji6)).f1.f4.f0) ((rd_T49 x3_1 (ji6)).f1.f4.f1) ((rd_T49 x3_1 (ji6)).f1.f4.f2) ((rd_T49 l0 x9_1).f1.f0) ((rd_T49 l0 x9_1).f1.f1) ((rd_T49 l0 x9_1).f1.f2) ((rd_T49 l0 x9_1).f1.f3.f0) ((rd_T49 l0 x9_1).f1.f3.f1) ((rd_T49 l0 x9_1).f1.f3.f2) ((rd_T49 l0 x9_1).f1.f4.f0) ((rd_T49 l0 x9_1).f1.f4.f1) ((rd_T49 l0 x9_1).f1.f4.f2)).bind fun bt164 => (groups_gather.l0 k1 (x3_1.set ((ji6) : Int).toNat (⟨(⟨(rd_T49 x3_1 (ji6)).f0.f0, (rd_T49 x3_1 (ji6)).f0.f1, (rd_T49 x3_1 (ji6)).f0.f2⟩ : S37), (⟨bt164.1, bt164.2.1, bt164.2.2.1, (⟨bt164.2.2.2.1, bt164.2.2.2.2.1, bt164.2.2.2.2.2.1⟩ : S37), (⟨bt164.2.2.2.2.2.2.1, bt164.2.2.2.2.2.2.2.1, bt164.2.2.2.2.2.2.2.2⟩ : S37)⟩ : S47)⟩ : S49)) l0 (l0.length : Int) (wrap64 (x9_1 + 1)))) else (if x3_1.length < 1172812402961 then (groups_gather.l0 k1 (x3_1 ++ [(⟨(⟨(rd_T49 l0 x9_1).f0.f0, (rd_T49 l0 x9_1).f0.f1, (rd_T49 l0 x9_1).f0.f2⟩ : S37), (⟨(rd_T49 l0 x9_1).f1.f0, (rd_T49 l0 x9_1).f1.f1, (rd_T49 l0 x9_1).f1.f2, (⟨(rd_T49 l0 x9_1).f1.f3.f0, (rd_T49 l0 x9_1).f1.f3.f1, (rd_T49 l0 x9_1).f1.f3.f2⟩ : S37), (⟨(rd_T49 l0 x9_1).f1.f4.f0, (rd_T49 l0 x9_1).f1.f4.f1, (rd_T49 l0 x9_1).f1.f4.f2⟩ : S37)⟩ : S47)⟩ : S49)]) l0 (l0.length : Int) (wrap64 (x9_1 + 1))) else (none))) = some r := H
         have A9 := Aside0.mk A90
         clear A90
         by_cases c10 : t162 = 0
         ·rw [if_pos c10] at H
          have c10b0 : (t162 == 0) = true := beq_iff_eq.mpr c10
          have c10b1 : (t162 != 0) = false := bne_eq_false_iff_eq.mpr c10
          clear c10
          replace H := Option.bind_eq_some_iff.mp H
          obtain ⟨⟨t164, t165, t166, t167, t168, t169, t170, t171, t172⟩, A110, H⟩ := H
          replace H : (groups_gather.l0 k1 (x3_1.set ((ji6) : Int).toNat (⟨(⟨(rd_T49 x3_1 (ji6)).f0.f0, (rd_T49 x3_1 (ji6)).f0.f1, (rd_T49 x3_1 (ji6)).f0.f2⟩ : S37), (⟨t164, t165, t166, (⟨t167, t168, t169⟩ : S37), (⟨t170, t171, t172⟩ : S37)⟩ : S47)⟩ : S49)) l0 (l0.length : Int) (wrap64 (x9_1 + 1))) = some r := H
          have A11 := Aside0.mk A110
          clear A110
          obtain ⟨y173, hy173⟩ : ∃ y_ : List (S49), y_ = (x3_1.set ((ji6) : Int).toNat (⟨(⟨(rd_T49 x3_1 (ji6)).f0.f0, (rd_T49 x3_1 (ji6)).f0.f1, (rd_T49 x3_1 (ji6)).f0.f2⟩ : S37), (⟨t164, t165, t166, (⟨t167, t168, t169⟩ : S37), (⟨t170, t171, t172⟩ : S37)⟩ : S47)⟩ : S49)) := ⟨_, rfl⟩
          replace H : (groups_gather.l0 k1 y173 l0 (l0.length : Int) (wrap64 (x9_1 + 1))) = some r := by first | (rw [hy173]; with_reducible exact H) | (have H2_ := (Option.bind_some _ _).symm.trans H; rw [hy173]; with_reducible exact H2_) | (have H2_ := (Option.bind_some _ _).symm.trans H; with_reducible exact H2_) | with_reducible exact H | (rw [hy173]; exact H) | exact H
          have Ny173 := Aside0.mk hy173
          clear hy173
          have H' := Aside0.mk H
          clear H
          have p159 : 0 ≤ (x9_1 : Int) := of_decide_eq_true (by with_reducible assumption)
          have q159 : x9_1 < (l0.length : Int) := of_decide_eq_true (by with_reducible assumption)
          obtain ⟨ad159, e159, hx159_0, hx159_1, hx159_2, hx159_3, hx159_4, hx159_5, hx159_6, hx159_7, hx159_8, hx159_9, hx159_10, hx159_11⟩ := at_T49 HR0.out x9_1 p159 q159
          cases e159
          replace hx159_0 := pw_cell_below HB.out hx159_0
          replace hx159_1 := pw_cell_below HB.out hx159_1
          replace hx159_2 := pw_cell_below HB.out hx159_2
          replace hx159_3 := pw_cell_below HB.out hx159_3
          replace hx159_4 := pw_cell_below HB.out hx159_4
          replace hx159_5 := pw_cell_below HB.out hx159_5
          replace hx159_6 := pw_cell_below HB.out hx159_6
          replace hx159_7 := pw_cell_below HB.out hx159_7
          replace hx159_8 := pw_cell_below HB.out hx159_8
          replace hx159_9 := pw_cell_below HB.out hx159_9
          replace hx159_10 := pw_cell_below HB.out hx159_10
          replace hx159_11 := pw_cell_below HB.out hx159_11
          replace p159 := eq_true p159
          replace q159 := eq_true q159
          try go_wp2_with (first | ((with_reducible refine gate_dst (N := 5) rfl ?_); refine box_event ?hg (N := 5) ?hd (cs := #[.bool false, .int .i64 0, .string (⟨#[]⟩ : ByteArray), .int .i64 0, .int .i64 0, .int .i64 0, .bool false, .int .i64 0, .string (⟨#[]⟩ : ByteArray), .bool false, .int .i64 0, .string (⟨#[]⟩ : ByteArray)]) (t := 49) ?hr ?_; (case hd => rfl); (case hg => rfl); (case hr => first | (go_simp; done) | (go_simp; rfl)); intro gb160 hg w13 hbox hb; have n0_ := Aside0.mk (Kd.R_below (Kd.R_elderB (by (with_reducible repeat (first | apply Kd.R_alloc | apply Kd.R_drewN | apply Kd.R_drew)); exact HO_3.out) gb160 (Nat.le_of_eq hg.symm)) hb); have n1_ := Aside0.mk (below_step (by with_reducible repeat first | exact HB.out | apply below_alloc | apply pw_below_drewN | apply below_drew1) hb); have n2_ := Aside0.mk (hbox); have n3_ := Aside0.mk ((by rw [hg]; exact (below_size (by with_reducible repeat first | exact HB.out | apply below_alloc | apply pw_below_drewN | apply below_drew1)) : w.heap.size ≤ gb160)); have n4_ := Aside0.mk ((by rw [hg]; exact (below_size (by with_reducible repeat first | exact HB.out | apply below_alloc | apply pw_below_drewN | apply below_drew1)) : w.heap.size ≤ gb160)); clear HO_3; clear HB; have HO_3 := n0_; have HB := n1_; have BK160 := n2_; have GW160 := n3_; have GE160 := n4_; clear n0_ n1_ n2_ n3_ n4_; clear hb hbox hg; obtain ⟨hcz14_0, hcz14_1, hcz14_2, hcz14_3, hcz14_4, hcz14_5, hcz14_6, hcz14_7, hcz14_8, hcz14_9, hcz14_10, hcz14_11⟩ := bc12 BK160.out; obtain ⟨hfz14_0, hfz14_1, hfz14_2, hfz14_3, hfz14_4, hfz14_5, hfz14_6, hfz14_7, hfz14_8, hfz14_9, hfz14_10, hfz14_11⟩ := bf12 BK160.out; obtain ⟨Ao15, co15, eo15⟩ := Kd.R_slice HO_3.out; subst eo15))
          have n0_ : Aside0 (Kd.R k49 49 ((((((((((((w13.setCell ⟨gb160, 0, none⟩ (.bool ((rd_T49 l0 x9_1).f0.f0))).setCell ⟨gb160, 1, none⟩ (.int .i64 ((rd_T49 l0 x9_1).f0.f1))).setCell ⟨gb160, 2, none⟩ (.string ((rd_T49 l0 x9_1).f0.f2))).setCell ⟨gb160, 3, none⟩ (.int .i64 ((rd_T49 l0 x9_1).f1.f0))).setCell ⟨gb160, 4, none⟩ (.int .i64 ((rd_T49 l0 x9_1).f1.f1))).setCell ⟨gb160, 5, none⟩ (.int .i64 ((rd_T49 l0 x9_1).f1.f2))).setCell ⟨gb160, 6, none⟩ (.bool ((rd_T49 l0 x9_1).f1.f3.f0))).setCell ⟨gb160, 7, none⟩ (.int .i64 ((rd_T49 l0 x9_1).f1.f3.f1))).setCell ⟨gb160, 8, none⟩ (.string ((rd_T49 l0 x9_1).f1.f3.f2))).setCell ⟨gb160, 9, none⟩ (.bool ((rd_T49 l0 x9_1).f1.f4.f0))).setCell ⟨gb160, 10, none⟩ (.int .i64 ((rd_T49 l0 x9_1).f1.f4.f1))).setCell ⟨gb160, 11, none⟩ (.string ((rd_T49 l0 x9_1).f1.f4.f2))) w.heap.size (fun k_ => k_ ≠ gb160) (.slice Ao15 x3_1.length co15) x3_1) := ⟨by (with_reducible repeat (first | apply Kd.R_alloc | apply Kd.R_drewN | apply Kd.R_drew)); exact Kd.R_mono (Kd.R_far (p := ⟨gb160, 11, none⟩) (Kd.R_far (p := ⟨gb160, 10, none⟩) (Kd.R_far (p := ⟨gb160, 9, none⟩) (Kd.R_far (p := ⟨gb160, 8, none⟩) (Kd.R_far (p := ⟨gb160, 7, none⟩) (Kd.R_far (p := ⟨gb160, 6, none⟩) (Kd.R_far (p := ⟨gb160, 5, none⟩) (Kd.R_far (p := ⟨gb160, 4, none⟩) (Kd.R_far (p := ⟨gb160, 3, none⟩) (Kd.R_far (p := ⟨gb160, 2, none⟩) (Kd.R_far (p := ⟨gb160, 1, none⟩) (Kd.R_far (p := ⟨gb160, 0, none⟩) (Kd.R_mono HO_3.out (fun k_ hk => (⟨hk, hk.2⟩ : _ ∧ k_ ≠ gb160))) (fun _ hk => hk.2) (.bool ((rd_T49 l0 x9_1).f0.f0))) (fun _ hk => hk.2) (.int .i64 ((rd_T49 l0 x9_1).f0.f1))) (fun _ hk => hk.2) (.string ((rd_T49 l0 x9_1).f0.f2))) (fun _ hk => hk.2) (.int .i64 ((rd_T49 l0 x9_1).f1.f0))) (fun _ hk => hk.2) (.int .i64 ((rd_T49 l0 x9_1).f1.f1))) (fun _ hk => hk.2) (.int .i64 ((rd_T49 l0 x9_1).f1.f2))) (fun _ hk => hk.2) (.bool ((rd_T49 l0 x9_1).f1.f3.f0))) (fun _ hk => hk.2) (.int .i64 ((rd_T49 l0 x9_1).f1.f3.f1))) (fun _ hk => hk.2) (.string ((rd_T49 l0 x9_1).f1.f3.f2))) (fun _ hk => hk.2) (.bool ((rd_T49 l0 x9_1).f1.f4.f0))) (fun _ hk => hk.2) (.int .i64 ((rd_T49 l0 x9_1).f1.f4.f1))) (fun _ hk => hk.2) (.string ((rd_T49 l0 x9_1).f1.f4.f2))) (fun _ hk => hk.1.2)⟩
          have n1_ : Aside0 (((((((((((((w13.setCell ⟨gb160, 0, none⟩ (.bool ((rd_T49 l0 x9_1).f0.f0))).setCell ⟨gb160, 1, none⟩ (.int .i64 ((rd_T49 l0 x9_1).f0.f1))).setCell ⟨gb160, 2, none⟩ (.string ((rd_T49 l0 x9_1).f0.f2))).setCell ⟨gb160, 3, none⟩ (.int .i64 ((rd_T49 l0 x9_1).f1.f0))).setCell ⟨gb160, 4, none⟩ (.int .i64 ((rd_T49 l0 x9_1).f1.f1))).setCell ⟨gb160, 5, none⟩ (.int .i64 ((rd_T49 l0 x9_1).f1.f2))).setCell ⟨gb160, 6, none⟩ (.bool ((rd_T49 l0 x9_1).f1.f3.f0))).setCell ⟨gb160, 7, none⟩ (.int .i64 ((rd_T49 l0 x9_1).f1.f3.f1))).setCell ⟨gb160, 8, none⟩ (.string ((rd_T49 l0 x9_1).f1.f3.f2))).setCell ⟨gb160, 9, none⟩ (.bool ((rd_T49 l0 x9_1).f1.f4.f0))).setCell ⟨gb160, 10, none⟩ (.int .i64 ((rd_T49 l0 x9_1).f1.f4.f1))).setCell ⟨gb160, 11, none⟩ (.string ((rd_T49 l0 x9_1).f1.f4.f2))).heap[gb160]? = some (.cells #[.bool ((rd_T49 l0 x9_1).f0.f0), .int .i64 ((rd_T49 l0 x9_1).f0.f1), .string ((rd_T49 l0 x9_1).f0.f2), .int .i64 ((rd_T49 l0 x9_1).f1.f0), .int .i64 ((rd_T49 l0 x9_1).f1.f1), .int .i64 ((rd_T49 l0 x9_1).f1.f2), .bool ((rd_T49 l0 x9_1).f1.f3.f0), .int .i64 ((rd_T49 l0 x9_1).f1.f3.f1), .string ((rd_T49 l0 x9_1).f1.f3.f2), .bool ((rd_T49 l0 x9_1).f1.f4.f0), .int .i64 ((rd_T49 l0 x9_1).f1.f4.f1), .string ((rd_T49 l0 x9_1).f1.f4.f2)] 49 (0, 0))) := ⟨by refine blk_put (cs := #[.bool ((rd_T49 l0 x9_1).f0.f0), .int .i64 ((rd_T49 l0 x9_1).f0.f1), .string ((rd_T49 l0 x9_1).f0.f2), .int .i64 ((rd_T49 l0 x9_1).f1.f0), .int .i64 ((rd_T49 l0 x9_1).f1.f1), .int .i64 ((rd_T49 l0 x9_1).f1.f2), .bool ((rd_T49 l0 x9_1).f1.f3.f0), .int .i64 ((rd_T49 l0 x9_1).f1.f3.f1), .string ((rd_T49 l0 x9_1).f1.f3.f2), .bool ((rd_T49 l0 x9_1).f1.f4.f0), .int .i64 ((rd_T49 l0 x9_1).f1.f4.f1), .string (⟨#[]⟩ : ByteArray)]) ?_ 11 _ rfl; refine blk_put (cs := #[.bool ((rd_T49 l0 x9_1).f0.f0), .int .i64 ((rd_T49 l0 x9_1).f0.f1), .string ((rd_T49 l0 x9_1).f0.f2), .int .i64 ((rd_T49 l0 x9_1).f1.f0), .int .i64 ((rd_T49 l0 x9_1).f1.f1), .int .i64 ((rd_T49 l0 x9_1).f1.f2), .bool ((rd_T49 l0 x9_1).f1.f3.f0), .int .i64 ((rd_T49 l0 x9_1).f1.f3.f1), .string ((rd_T49 l0 x9_1).f1.f3.f2), .bool ((rd_T49 l0 x9_1).f1.f4.f0), .int .i64 0, .string (⟨#[]⟩ : ByteArray)]) ?_ 10 _ rfl; refine blk_put (cs := #[.bool ((rd_T49 l0 x9_1).f0.f0), .int .i64 ((rd_T49 l0 x9_1).f0.f1), .string ((rd_T49 l0 x9_1).f0.f2), .int .i64 ((rd_T49 l0 x9_1).f1.f0), .int .i64 ((rd_T49 l0 x9_1).f1.f1), .int .i64 ((rd_T49 l0 x9_1).f1.f2), .bool ((rd_T49 l0 x9_1).f1.f3.f0), .int .i64 ((rd_T49 l0 x9_1).f1.f3.f1), .string ((rd_T49 l0 x9_1).f1.f3.f2), .bool false, .int .i64 0, .string (⟨#[]⟩ : ByteArray)]) ?_ 9 _ rfl; refine blk_put (cs := #[.bool ((rd_T49 l0 x9_1).f0.f0), .int .i64 ((rd_T49 l0 x9_1).f0.f1), .string ((rd_T49 l0 x9_1).f0.f2), .int .i64 ((rd_T49 l0 x9_1).f1.f0), .int .i64 ((rd_T49 l0 x9_1).f1.f1), .int .i64 ((rd_T49 l0 x9_1).f1.f2), .bool ((rd_T49 l0 x9_1).f1.f3.f0), .int .i64 ((rd_T49 l0 x9_1).f1.f3.f1), .string (⟨#[]⟩ : ByteArray), .bool false, .int .i64 0, .string (⟨#[]⟩ : ByteArray)]) ?_ 8 _ rfl; refine blk_put (cs := #[.bool ((rd_T49 l0 x9_1).f0.f0), .int .i64 ((rd_T49 l0 x9_1).f0.f1), .string ((rd_T49 l0 x9_1).f0.f2), .int .i64 ((rd_T49 l0 x9_1).f1.f0), .int .i64 ((rd_T49 l0 x9_1).f1.f1), .int .i64 ((rd_T49 l0 x9_1).f1.f2), .bool ((rd_T49 l0 x9_1).f1.f3.f0), .int .i64 0, .string (⟨#[]⟩ : ByteArray), .bool false, .int .i64 0, .string (⟨#[]⟩ : ByteArray)]) ?_ 7 _ rfl; refine blk_put (cs := #[.bool ((rd_T49 l0 x9_1).f0.f0), .int .i64 ((rd_T49 l0 x9_1).f0.f1), .string ((rd_T49 l0 x9_1).f0.f2), .int .i64 ((rd_T49 l0 x9_1).f1.f0), .int .i64 ((rd_T49 l0 x9_1).f1.f1), .int .i64 ((rd_T49 l0 x9_1).f1.f2), .bool false, .int .i64 0, .string (⟨#[]⟩ : ByteArray), .bool false, .int .i64 0, .string (⟨#[]⟩ : ByteArray)]) ?_ 6 _ rfl; refine blk_put (cs := #[.bool ((rd_T49 l0 x9_1).f0.f0), .int .i64 ((rd_T49 l0 x9_1).f0.f1), .string ((rd_T49 l0 x9_1).f0.f2), .int .i64 ((rd_T49 l0 x9_1).f1.f0), .int .i64 ((rd_T49 l0 x9_1).f1.f1), .int .i64 0, .bool false, .int .i64 0, .string (⟨#[]⟩ : ByteArray), .bool false, .int .i64 0, .string (⟨#[]⟩ : ByteArray)]) ?_ 5 _ rfl; refine blk_put (cs := #[.bool ((rd_T49 l0 x9_1).f0.f0), .int .i64 ((rd_T49 l0 x9_1).f0.f1), .string ((rd_T49 l0 x9_1).f0.f2), .int .i64 ((rd_T49 l0 x9_1).f1.f0), .int .i64 0, .int .i64 0, .bool false, .int .i64 0, .string (⟨#[]⟩ : ByteArray), .bool false, .int .i64 0, .string (⟨#[]⟩ : ByteArray)]) ?_ 4 _ rfl; refine blk_put (cs := #[.bool ((rd_T49 l0 x9_1).f0.f0), .int .i64 ((rd_T49 l0 x9_1).f0.f1), .string ((rd_T49 l0 x9_1).f0.f2), .int .i64 0, .int .i64 0, .int .i64 0, .bool false, .int .i64 0, .string (⟨#[]⟩ : ByteArray), .bool false, .int .i64 0, .string (⟨#[]⟩ : ByteArray)]) ?_ 3 _ rfl; refine blk_put (cs := #[.bool ((rd_T49 l0 x9_1).f0.f0), .int .i64 ((rd_T49 l0 x9_1).f0.f1), .string (⟨#[]⟩ : ByteArray), .int .i64 0, .int .i64 0, .int .i64 0, .bool false, .int .i64 0, .string (⟨#[]⟩ : ByteArray), .bool false, .int .i64 0, .string (⟨#[]⟩ : ByteArray)]) ?_ 2 _ rfl; refine blk_put (cs := #[.bool ((rd_T49 l0 x9_1).f0.f0), .int .i64 0, .string (⟨#[]⟩ : ByteArray), .int .i64 0, .int .i64 0, .int .i64 0, .bool false, .int .i64 0, .string (⟨#[]⟩ : ByteArray), .bool false, .int .i64 0, .string (⟨#[]⟩ : ByteArray)]) ?_ 1 _ rfl; refine blk_put (cs := #[.bool false, .int .i64 0, .string (⟨#[]⟩ : ByteArray), .int .i64 0, .int .i64 0, .int .i64 0, .bool false, .int .i64 0, .string (⟨#[]⟩ : ByteArray), .bool false, .int .i64 0, .string (⟨#[]⟩ : ByteArray)]) ?_ 0 _ rfl; (with_reducible repeat (first | refine blk_drewN ?_ _ | refine blk_drew ?_ | refine blk_alloc ?_ _)); exact BK160.out⟩
          have n2_ : Aside0 (Below w.heap.size w ((((((((((((w13.setCell ⟨gb160, 0, none⟩ (.bool ((rd_T49 l0 x9_1).f0.f0))).setCell ⟨gb160, 1, none⟩ (.int .i64 ((rd_T49 l0 x9_1).f0.f1))).setCell ⟨gb160, 2, none⟩ (.string ((rd_T49 l0 x9_1).f0.f2))).setCell ⟨gb160, 3, none⟩ (.int .i64 ((rd_T49 l0 x9_1).f1.f0))).setCell ⟨gb160, 4, none⟩ (.int .i64 ((rd_T49 l0 x9_1).f1.f1))).setCell ⟨gb160, 5, none⟩ (.int .i64 ((rd_T49 l0 x9_1).f1.f2))).setCell ⟨gb160, 6, none⟩ (.bool ((rd_T49 l0 x9_1).f1.f3.f0))).setCell ⟨gb160, 7, none⟩ (.int .i64 ((rd_T49 l0 x9_1).f1.f3.f1))).setCell ⟨gb160, 8, none⟩ (.string ((rd_T49 l0 x9_1).f1.f3.f2))).setCell ⟨gb160, 9, none⟩ (.bool ((rd_T49 l0 x9_1).f1.f4.f0))).setCell ⟨gb160, 10, none⟩ (.int .i64 ((rd_T49 l0 x9_1).f1.f4.f1))).setCell ⟨gb160, 11, none⟩ (.string ((rd_T49 l0 x9_1).f1.f4.f2)))) := ⟨by repeat (first | (with_reducible first | exact HB.out | apply below_alloc | apply pw_below_drewN | apply below_drew1 | refine below_set ?_ GE160.out) | exact HB.out)⟩
          (try clear HO_3)
          (try clear BK160)
          (try clear HB)
          generalize ((((((((((((w13.setCell ⟨gb160, 0, none⟩ (.bool ((rd_T49 l0 x9_1).f0.f0))).setCell ⟨gb160, 1, none⟩ (.int .i64 ((rd_T49 l0 x9_1).f0.f1))).setCell ⟨gb160, 2, none⟩ (.string ((rd_T49 l0 x9_1).f0.f2))).setCell ⟨gb160, 3, none⟩ (.int .i64 ((rd_T49 l0 x9_1).f1.f0))).setCell ⟨gb160, 4, none⟩ (.int .i64 ((rd_T49 l0 x9_1).f1.f1))).setCell ⟨gb160, 5, none⟩ (.int .i64 ((rd_T49 l0 x9_1).f1.f2))).setCell ⟨gb160, 6, none⟩ (.bool ((rd_T49 l0 x9_1).f1.f3.f0))).setCell ⟨gb160, 7, none⟩ (.int .i64 ((rd_T49 l0 x9_1).f1.f3.f1))).setCell ⟨gb160, 8, none⟩ (.string ((rd_T49 l0 x9_1).f1.f3.f2))).setCell ⟨gb160, 9, none⟩ (.bool ((rd_T49 l0 x9_1).f1.f4.f0))).setCell ⟨gb160, 10, none⟩ (.int .i64 ((rd_T49 l0 x9_1).f1.f4.f1))).setCell ⟨gb160, 11, none⟩ (.string ((rd_T49 l0 x9_1).f1.f4.f2))) = w16 at n0_ n1_ n2_ ⊢
          have HO_3 := n0_
          have BK160 := n1_
          have HB := n2_
          clear n0_ n1_ n2_
          have n0_ := Aside0.mk (Kd.R_drew HO_3.out)
          have n1_ := Aside0.mk (blk_drew BK160.out)
          have n2_ := Aside0.mk (below_drew1 HB.out)
          clear HO_3
          clear BK160
          clear HB
          have HO_3 := n0_
          have BK160 := n1_
          have HB := n2_
          clear n0_ n1_ n2_
          have p161 : 0 ≤ ((ji6) : Int) := of_decide_eq_true (by with_reducible assumption)
          have q161 : (ji6) < (x3_1.length : Int) := of_decide_eq_true (by with_reducible assumption)
          obtain ⟨ad161, e161, hx161_0, hx161_1, hx161_2, hx161_3, hx161_4, hx161_5, hx161_6, hx161_7, hx161_8, hx161_9, hx161_10, hx161_11⟩ := at_T49 (Kd.R_reads' HO_3.out).2.2 (ji6) p161 q161
          cases e161
          replace p161 := eq_true p161
          replace q161 := eq_true q161
          refine start_ (n := 11) (S := fun w' => w'.cell? ⟨gb160, 0, none⟩ = some (.bool ((rd_T49 l0 x9_1).f0.f0)) ∧ w'.cell? ⟨gb160, 1, none⟩ = some (.int .i64 ((rd_T49 l0 x9_1).f0.f1)) ∧ w'.cell? ⟨gb160, 2, none⟩ = some (.string ((rd_T49 l0 x9_1).f0.f2)) ∧ w'.cell? ⟨gb160, 3, none⟩ = some (.int .i64 ((rd_T49 l0 x9_1).f1.f0)) ∧ w'.cell? ⟨gb160, 4, none⟩ = some (.int .i64 ((rd_T49 l0 x9_1).f1.f1)) ∧ w'.cell? ⟨gb160, 5, none⟩ = some (.int .i64 ((rd_T49 l0 x9_1).f1.f2)) ∧ w'.cell? ⟨gb160, 6, none⟩ = some (.bool ((rd_T49 l0 x9_1).f1.f3.f0)) ∧ w'.cell? ⟨gb160, 7, none⟩ = some (.int .i64 ((rd_T49 l0 x9_1).f1.f3.f1)) ∧ w'.cell? ⟨gb160, 8, none⟩ = some (.string ((rd_T49 l0 x9_1).f1.f3.f2)) ∧ w'.cell? ⟨gb160, 9, none⟩ = some (.bool ((rd_T49 l0 x9_1).f1.f4.f0)) ∧ w'.cell? ⟨gb160, 10, none⟩ = some (.int .i64 ((rd_T49 l0 x9_1).f1.f4.f1)) ∧ w'.cell? ⟨gb160, 11, none⟩ = some (.string ((rd_T49 l0 x9_1).f1.f4.f2)) ∧ w'.cell? (ad161.add (((ji6)).toNat * 12)) = some (.bool ((rd_T49 x3_1 (ji6)).f0.f0)) ∧ w'.cell? ⟨(ad161.add (((ji6)).toNat * 12)).block, (ad161.add (((ji6)).toNat * 12)).off + 1, none⟩ = some (.int .i64 ((rd_T49 x3_1 (ji6)).f0.f1)) ∧ w'.cell? ⟨(ad161.add (((ji6)).toNat * 12)).block, (ad161.add (((ji6)).toNat * 12)).off + 2, none⟩ = some (.string ((rd_T49 x3_1 (ji6)).f0.f2)) ∧ w'.cell? ⟨(ad161.add (((ji6)).toNat * 12)).block, (ad161.add (((ji6)).toNat * 12)).off + 3, none⟩ = some (.int .i64 ((rd_T49 x3_1 (ji6)).f1.f0)) ∧ w'.cell? ⟨(ad161.add (((ji6)).toNat * 12)).block, (ad161.add (((ji6)).toNat * 12)).off + 4, none⟩ = some (.int .i64 ((rd_T49 x3_1 (ji6)).f1.f1)) ∧ w'.cell? ⟨(ad161.add (((ji6)).toNat * 12)).block, (ad161.add (((ji6)).toNat * 12)).off + 5, none⟩ = some (.int .i64 ((rd_T49 x3_1 (ji6)).f1.f2)) ∧ w'.cell? ⟨(ad161.add (((ji6)).toNat * 12)).block, (ad161.add (((ji6)).toNat * 12)).off + 6, none⟩ = some (.bool ((rd_T49 x3_1 (ji6)).f1.f3.f0)) ∧ w'.cell? ⟨(ad161.add (((ji6)).toNat * 12)).block, (ad161.add (((ji6)).toNat * 12)).off + 7, none⟩ = some (.int .i64 ((rd_T49 x3_1 (ji6)).f1.f3.f1)) ∧ w'.cell? ⟨(ad161.add (((ji6)).toNat * 12)).block, (ad161.add (((ji6)).toNat * 12)).off + 8, none⟩ = some (.string ((rd_T49 x3_1 (ji6)).f1.f3.f2)) ∧ w'.cell? ⟨(ad161.add (((ji6)).toNat * 12)).block, (ad161.add (((ji6)).toNat * 12)).off + 9, none⟩ = some (.bool ((rd_T49 x3_1 (ji6)).f1.f4.f0)) ∧ w'.cell? ⟨(ad161.add (((ji6)).toNat * 12)).block, (ad161.add (((ji6)).toNat * 12)).off + 10, none⟩ = some (.int .i64 ((rd_T49 x3_1 (ji6)).f1.f4.f1)) ∧ w'.cell? ⟨(ad161.add (((ji6)).toNat * 12)).block, (ad161.add (((ji6)).toNat * 12)).off + 11, none⟩ = some (.string ((rd_T49 x3_1 (ji6)).f1.f4.f2))) (ds := []) #[false, false, false, false, false, false, false, false, false, false, false] (by kernel_rfl) rfl rfl ⟨(blk_cell BK160.out 0).trans rfl, (blk_cell BK160.out 1).trans rfl, (blk_cell BK160.out 2).trans rfl, (blk_cell BK160.out 3).trans rfl, (blk_cell BK160.out 4).trans rfl, (blk_cell BK160.out 5).trans rfl, (blk_cell BK160.out 6).trans rfl, (blk_cell BK160.out 7).trans rfl, (blk_cell BK160.out 8).trans rfl, (blk_cell BK160.out 9).trans rfl, (blk_cell BK160.out 10).trans rfl, (blk_cell BK160.out 11).trans rfl, hx161_0, hx161_1, hx161_2, hx161_3, hx161_4, hx161_5, hx161_6, hx161_7, hx161_8, hx161_9, hx161_10, hx161_11⟩ (fun hHeld => ?_); refine with_tabW groups_gather.tab6 groups_gather.bits6 (fun HT_ HW_ => ?_)
          generalize w16.drew = w17 at HO_3 BK160 HB hx161_0 hx161_1 hx161_10 hx161_11 hx161_2 hx161_3 hx161_4 hx161_5 hx161_6 hx161_7 hx161_8 hx161_9 hHeld ⊢
          refine pure_ (i := 0) (N := some 16) (v := ?_) (a' := ?_) #[true, false, false, false, false, false, false, false, false, false, false] rfl rfl (any_of HT_.out (by kernel_rfl)) (fun _ _ _ h => h) (Or.inl ⟨by rfl, ?_⟩) ?_ ?_
          rotate_left
          ·intro w'
           go_simp
           with_reducible rfl
          rotate_left
          ·simp only [Act.put, List.setIfInBounds_toArray, List.set_cons_zero, List.set_cons_succ, i64_w, i32_w]
           rfl
          refine pure_ (i := 1) (N := some 17) (v := ?_) (a' := ?_) #[true, true, false, false, false, false, false, false, false, false, false] rfl rfl (any_of HT_.out (by kernel_rfl)) (fun _ _ _ h => h) (Or.inl ⟨by rfl, ?_⟩) ?_ ?_
          rotate_left
          ·intro w'
           go_simp
           with_reducible rfl
          rotate_left
          ·simp only [Act.put, List.setIfInBounds_toArray, List.set_cons_zero, List.set_cons_succ, i64_w, i32_w]
           rfl
          refine pure_ (i := 2) (N := some 18) (v := ?_) (a' := ?_) #[true, true, true, false, false, false, false, false, false, false, false] rfl rfl (any_of HT_.out (by kernel_rfl)) (fun _ _ _ h => h) (Or.inl ⟨by rfl, ?_⟩) ?_ ?_
          rotate_left
          ·intro w'
           go_simp
           with_reducible rfl
          rotate_left
          ·simp only [Act.put, List.setIfInBounds_toArray, List.set_cons_zero, List.set_cons_succ, i64_w, i32_w]
           rfl
          refine pure_ (i := 3) (N := some 19) (v := ?_) (a' := ?_) #[true, true, true, true, false, false, false, false, false, false, false] rfl rfl (any_of HT_.out (by kernel_rfl)) (fun _ _ _ h => h) (Or.inl ⟨by rfl, ?_⟩) ?_ ?_
          rotate_left
          ·intro w'
           go_simp
           with_reducible rfl
          rotate_left
          ·simp only [Act.put, List.setIfInBounds_toArray, List.set_cons_zero, List.set_cons_succ, i64_w, i32_w]
           rfl
          refine pure_ (i := 4) (N := some 20) (v := ?_) (a' := ?_) #[true, true, true, true, true, false, false, false, false, false, false] rfl rfl (any_of HT_.out (by kernel_rfl)) (fun _ _ _ h => h) (Or.inl ⟨by rfl, ?_⟩) ?_ ?_
          rotate_left
          ·intro w'
           go_simp
           with_reducible rfl
          rotate_left
          ·simp only [Act.put, List.setIfInBounds_toArray, List.set_cons_zero, List.set_cons_succ, i64_w, i32_w]
           rfl
          refine pure_ (i := 5) (N := some 21) (v := ?_) (a' := ?_) #[true, true, true, true, true, true, false, false, false, false, false] rfl rfl (any_of HT_.out (by kernel_rfl)) (fun _ _ _ h => h) (Or.inl ⟨by rfl, ?_⟩) ?_ ?_
          rotate_left
          ·intro w'
           go_simp
           with_reducible rfl
          rotate_left
          ·simp only [Act.put, List.setIfInBounds_toArray, List.set_cons_zero, List.set_cons_succ, i64_w, i32_w]
           rfl
          refine take_ (i := 6) (N := some 22) (v := ?_) (a' := ?_) #[true, true, true, true, true, true, true, false, false, false, false] rfl rfl (take_ofW HT_.out HW_.out (by kernel_rfl)) (fun _ _ _ h => h) (Or.inl ⟨by rfl, ?_⟩) hHeld ?_ ?_
          rotate_left
          ·rintro w' ⟨s0, s1, s2, s3, s4, s5, s6, s7, s8, s9, s10, s11, s12, s13, s14, s15, s16, s17, s18, s19, s20, s21, s22, s23⟩
           go_simp
           with_reducible rfl
          rotate_left
          ·simp only [Act.put, List.setIfInBounds_toArray, List.set_cons_zero, List.set_cons_succ, i64_w, i32_w]
           rfl
          refine take_ (i := 7) (N := some 23) (v := ?_) (a' := ?_) #[true, true, true, true, true, true, true, true, false, false, false] rfl rfl (take_ofW HT_.out HW_.out (by kernel_rfl)) (fun _ _ _ h => h) (Or.inl ⟨by rfl, ?_⟩) hHeld ?_ ?_
          rotate_left
          ·rintro w' ⟨s0, s1, s2, s3, s4, s5, s6, s7, s8, s9, s10, s11, s12, s13, s14, s15, s16, s17, s18, s19, s20, s21, s22, s23⟩
           go_simp
           with_reducible rfl
          rotate_left
          ·simp only [Act.put, List.setIfInBounds_toArray, List.set_cons_zero, List.set_cons_succ, i64_w, i32_w]
           rfl
          refine one_ (i := 8) (N := some 24) #[true, true, true, true, true, true, true, true, true, false, false] rfl rfl (one_of HT_.out (by kernel_rfl)) (by decide) (fun K hK => ?_)
          refine goes_ Try.func56 (by kernel_rfl) rfl #[.agg #[.bool ((rd_T49 x3_1 (ji6)).f0.f0), .int .i64 ((rd_T49 x3_1 (ji6)).f0.f1), .string ((rd_T49 x3_1 (ji6)).f0.f2), .int .i64 ((rd_T49 x3_1 (ji6)).f1.f0), .int .i64 ((rd_T49 x3_1 (ji6)).f1.f1), .int .i64 ((rd_T49 x3_1 (ji6)).f1.f2), .bool ((rd_T49 x3_1 (ji6)).f1.f3.f0), .int .i64 ((rd_T49 x3_1 (ji6)).f1.f3.f1), .string ((rd_T49 x3_1 (ji6)).f1.f3.f2), .bool ((rd_T49 x3_1 (ji6)).f1.f4.f0), .int .i64 ((rd_T49 x3_1 (ji6)).f1.f4.f1), .string ((rd_T49 x3_1 (ji6)).f1.f4.f2)], .agg #[.bool ((rd_T49 l0 x9_1).f0.f0), .int .i64 ((rd_T49 l0 x9_1).f0.f1), .string ((rd_T49 l0 x9_1).f0.f2), .int .i64 ((rd_T49 l0 x9_1).f1.f0), .int .i64 ((rd_T49 l0 x9_1).f1.f1), .int .i64 ((rd_T49 l0 x9_1).f1.f2), .bool ((rd_T49 l0 x9_1).f1.f3.f0), .int .i64 ((rd_T49 l0 x9_1).f1.f3.f1), .string ((rd_T49 l0 x9_1).f1.f3.f2), .bool ((rd_T49 l0 x9_1).f1.f4.f0), .int .i64 ((rd_T49 l0 x9_1).f1.f4.f1), .string ((rd_T49 l0 x9_1).f1.f4.f2)]] (by rfl) rfl rfl (by (try simp only [List.map_toArray, List.map_cons, List.map_nil]); first | done | (simp only [hji6]; rfl) | rfl | (simp only [List.length_drop, List.length_take]; rfl)) ?_
          with_reducible refine (groups_byKey.calls ((rd_T49 x3_1 (ji6)).f0.f0) ((rd_T49 x3_1 (ji6)).f0.f1) ((rd_T49 x3_1 (ji6)).f0.f2) ((rd_T49 x3_1 (ji6)).f1.f0) ((rd_T49 x3_1 (ji6)).f1.f1) ((rd_T49 x3_1 (ji6)).f1.f2) ((rd_T49 x3_1 (ji6)).f1.f3.f0) ((rd_T49 x3_1 (ji6)).f1.f3.f1) ((rd_T49 x3_1 (ji6)).f1.f3.f2) ((rd_T49 x3_1 (ji6)).f1.f4.f0) ((rd_T49 x3_1 (ji6)).f1.f4.f1) ((rd_T49 x3_1 (ji6)).f1.f4.f2) ((rd_T49 l0 x9_1).f0.f0) ((rd_T49 l0 x9_1).f0.f1) ((rd_T49 l0 x9_1).f0.f2) ((rd_T49 l0 x9_1).f1.f0) ((rd_T49 l0 x9_1).f1.f1) ((rd_T49 l0 x9_1).f1.f2) ((rd_T49 l0 x9_1).f1.f3.f0) ((rd_T49 l0 x9_1).f1.f3.f1) ((rd_T49 l0 x9_1).f1.f3.f2) ((rd_T49 l0 x9_1).f1.f4.f0) ((rd_T49 l0 x9_1).f1.f4.f1) ((rd_T49 l0 x9_1).f1.f4.f2) t162 _ A9.out).mono ?_
          rintro e w18 ⟨rfl, hb⟩
          have HS12_ := (hb.cell (World.block_lt_of_cell? _ _ (hHeld.2.2.2.2.2.2.2.2.2.2.2.2.1))).trans (hHeld.2.2.2.2.2.2.2.2.2.2.2.2.1)
          have HS13_ := (hb.cell (World.block_lt_of_cell? _ _ (hHeld.2.2.2.2.2.2.2.2.2.2.2.2.2.1))).trans (hHeld.2.2.2.2.2.2.2.2.2.2.2.2.2.1)
          have HS14_ := (hb.cell (World.block_lt_of_cell? _ _ (hHeld.2.2.2.2.2.2.2.2.2.2.2.2.2.2.1))).trans (hHeld.2.2.2.2.2.2.2.2.2.2.2.2.2.2.1)
          have HS15_ := (hb.cell (World.block_lt_of_cell? _ _ (hHeld.2.2.2.2.2.2.2.2.2.2.2.2.2.2.2.1))).trans (hHeld.2.2.2.2.2.2.2.2.2.2.2.2.2.2.2.1)
          have HS16_ := (hb.cell (World.block_lt_of_cell? _ _ (hHeld.2.2.2.2.2.2.2.2.2.2.2.2.2.2.2.2.1))).trans (hHeld.2.2.2.2.2.2.2.2.2.2.2.2.2.2.2.2.1)
          have HS17_ := (hb.cell (World.block_lt_of_cell? _ _ (hHeld.2.2.2.2.2.2.2.2.2.2.2.2.2.2.2.2.2.1))).trans (hHeld.2.2.2.2.2.2.2.2.2.2.2.2.2.2.2.2.2.1)
          have HS18_ := (hb.cell (World.block_lt_of_cell? _ _ (hHeld.2.2.2.2.2.2.2.2.2.2.2.2.2.2.2.2.2.2.1))).trans (hHeld.2.2.2.2.2.2.2.2.2.2.2.2.2.2.2.2.2.2.1)
          have HS19_ := (hb.cell (World.block_lt_of_cell? _ _ (hHeld.2.2.2.2.2.2.2.2.2.2.2.2.2.2.2.2.2.2.2.1))).trans (hHeld.2.2.2.2.2.2.2.2.2.2.2.2.2.2.2.2.2.2.2.1)
          have HS20_ := (hb.cell (World.block_lt_of_cell? _ _ (hHeld.2.2.2.2.2.2.2.2.2.2.2.2.2.2.2.2.2.2.2.2.1))).trans (hHeld.2.2.2.2.2.2.2.2.2.2.2.2.2.2.2.2.2.2.2.2.1)
          have HS21_ := (hb.cell (World.block_lt_of_cell? _ _ (hHeld.2.2.2.2.2.2.2.2.2.2.2.2.2.2.2.2.2.2.2.2.2.1))).trans (hHeld.2.2.2.2.2.2.2.2.2.2.2.2.2.2.2.2.2.2.2.2.2.1)
          have HS22_ := (hb.cell (World.block_lt_of_cell? _ _ (hHeld.2.2.2.2.2.2.2.2.2.2.2.2.2.2.2.2.2.2.2.2.2.2.1))).trans (hHeld.2.2.2.2.2.2.2.2.2.2.2.2.2.2.2.2.2.2.2.2.2.2.1)
          have HS23_ := (hb.cell (World.block_lt_of_cell? _ _ (hHeld.2.2.2.2.2.2.2.2.2.2.2.2.2.2.2.2.2.2.2.2.2.2.2))).trans (hHeld.2.2.2.2.2.2.2.2.2.2.2.2.2.2.2.2.2.2.2.2.2.2.2)
          refine ⟨_, rfl, ?_⟩
          have n0_ := Aside0.mk (Kd.R_below (by (with_reducible repeat (first | apply Kd.R_alloc | apply Kd.R_drewN | apply Kd.R_drew)); exact HO_3.out) hb)
          have n1_ := Aside0.mk (blk_below (g := gb160) (o := .cells #[.bool ((rd_T49 l0 x9_1).f0.f0), .int .i64 ((rd_T49 l0 x9_1).f0.f1), .string ((rd_T49 l0 x9_1).f0.f2), .int .i64 ((rd_T49 l0 x9_1).f1.f0), .int .i64 ((rd_T49 l0 x9_1).f1.f1), .int .i64 ((rd_T49 l0 x9_1).f1.f2), .bool ((rd_T49 l0 x9_1).f1.f3.f0), .int .i64 ((rd_T49 l0 x9_1).f1.f3.f1), .string ((rd_T49 l0 x9_1).f1.f3.f2), .bool ((rd_T49 l0 x9_1).f1.f4.f0), .int .i64 ((rd_T49 l0 x9_1).f1.f4.f1), .string ((rd_T49 l0 x9_1).f1.f4.f2)] 49 (0, 0)) (by (with_reducible repeat (first | refine blk_drewN ?_ _ | refine blk_drew ?_ | refine blk_alloc ?_ _)); exact BK160.out) hb)
          have n2_ := Aside0.mk (below_step (by with_reducible repeat first | exact HB.out | apply below_alloc | apply pw_below_drewN | apply below_drew1 | refine below_set ?_ GE160.out) hb)
          clear HO_3
          clear BK160
          clear HB
          have HO_3 := n0_
          have BK160 := n1_
          have HB := n2_
          clear n0_ n1_ n2_
          (try clear hb)
          (try clear hb2)
          (try clear hk)
          (try clear hi)
          refine hK.out _ _ ⟨(blk_cell BK160.out 0).trans rfl, (blk_cell BK160.out 1).trans rfl, (blk_cell BK160.out 2).trans rfl, (blk_cell BK160.out 3).trans rfl, (blk_cell BK160.out 4).trans rfl, (blk_cell BK160.out 5).trans rfl, (blk_cell BK160.out 6).trans rfl, (blk_cell BK160.out 7).trans rfl, (blk_cell BK160.out 8).trans rfl, (blk_cell BK160.out 9).trans rfl, (blk_cell BK160.out 10).trans rfl, (blk_cell BK160.out 11).trans rfl, HS12_, HS13_, HS14_, HS15_, HS16_, HS17_, HS18_, HS19_, HS20_, HS21_, HS22_, HS23_⟩ (fun hHeld => ?_)
          clear hK K
          refine norm_ (a' := ?_) ?_ ?_
          rotate_left
          ·show Act.put _ (some 24) _ = _
           simp only [Act.put, List.setIfInBounds_toArray, List.set_cons_zero, List.set_cons_succ, i64_w, i32_w]
           rfl
          refine pure_ (i := 9) (N := some 25) (v := ?_) (a' := ?_) #[true, true, true, true, true, true, true, true, true, true, false] rfl rfl (any_of HT_.out (by kernel_rfl)) (fun _ _ _ h => h) (Or.inl ⟨by rfl, ?_⟩) ?_ ?_
          rotate_left
          ·intro w'
           go_simp
           with_reducible rfl
          rotate_left
          ·simp only [Act.put, List.setIfInBounds_toArray, List.set_cons_zero, List.set_cons_succ, i64_w, i32_w]
           rfl
          refine pure_ (i := 10) (N := some 26) (v := ?_) (a' := ?_) #[true, true, true, true, true, true, true, true, true, true, true] rfl rfl (any_of HT_.out (by kernel_rfl)) (fun _ _ _ h => h) (Or.inl ⟨by rfl, ?_⟩) ?_ ?_
          rotate_left
          ·intro w'
           go_simp
           with_reducible rfl
          rotate_left
          ·simp only [Act.put, List.setIfInBounds_toArray, List.set_cons_zero, List.set_cons_succ, i64_w, i32_w]
           rfl
          refine done_ (done_of HT_.out (by kernel_rfl)) ?_
          try go_wp2
          have n0_ := Aside0.mk (Kd.R_drew HO_3.out)
          have n1_ := Aside0.mk (blk_drew BK160.out)
          have n2_ := Aside0.mk (below_drew1 HB.out)
          clear HO_3
          clear BK160
          clear HB
          have HO_3 := n0_
          have BK160 := n1_
          have HB := n2_
          clear n0_ n1_ n2_
          have p163 : 0 ≤ ((ji6) : Int) := of_decide_eq_true (by with_reducible assumption)
          have q163 : (ji6) < (x3_1.length : Int) := of_decide_eq_true (by with_reducible assumption)
          obtain ⟨ad163, e163, hx163_0, hx163_1, hx163_2, hx163_3, hx163_4, hx163_5, hx163_6, hx163_7, hx163_8, hx163_9, hx163_10, hx163_11⟩ := at_T49 (Kd.R_reads' HO_3.out).2.2 (ji6) p163 q163
          obtain rfl : ad161 = ad163 := (by injection e163)
          replace p163 := eq_true p163
          replace q163 := eq_true q163
          refine start_ (n := 13) (S := fun w' => w'.cell? ⟨gb160, 0, none⟩ = some (.bool ((rd_T49 l0 x9_1).f0.f0)) ∧ w'.cell? ⟨gb160, 1, none⟩ = some (.int .i64 ((rd_T49 l0 x9_1).f0.f1)) ∧ w'.cell? ⟨gb160, 2, none⟩ = some (.string ((rd_T49 l0 x9_1).f0.f2)) ∧ w'.cell? ⟨gb160, 3, none⟩ = some (.int .i64 ((rd_T49 l0 x9_1).f1.f0)) ∧ w'.cell? ⟨gb160, 4, none⟩ = some (.int .i64 ((rd_T49 l0 x9_1).f1.f1)) ∧ w'.cell? ⟨gb160, 5, none⟩ = some (.int .i64 ((rd_T49 l0 x9_1).f1.f2)) ∧ w'.cell? ⟨gb160, 6, none⟩ = some (.bool ((rd_T49 l0 x9_1).f1.f3.f0)) ∧ w'.cell? ⟨gb160, 7, none⟩ = some (.int .i64 ((rd_T49 l0 x9_1).f1.f3.f1)) ∧ w'.cell? ⟨gb160, 8, none⟩ = some (.string ((rd_T49 l0 x9_1).f1.f3.f2)) ∧ w'.cell? ⟨gb160, 9, none⟩ = some (.bool ((rd_T49 l0 x9_1).f1.f4.f0)) ∧ w'.cell? ⟨gb160, 10, none⟩ = some (.int .i64 ((rd_T49 l0 x9_1).f1.f4.f1)) ∧ w'.cell? ⟨gb160, 11, none⟩ = some (.string ((rd_T49 l0 x9_1).f1.f4.f2)) ∧ w'.cell? (ad161.add (((ji6)).toNat * 12)) = some (.bool ((rd_T49 x3_1 (ji6)).f0.f0)) ∧ w'.cell? ⟨(ad161.add (((ji6)).toNat * 12)).block, (ad161.add (((ji6)).toNat * 12)).off + 1, none⟩ = some (.int .i64 ((rd_T49 x3_1 (ji6)).f0.f1)) ∧ w'.cell? ⟨(ad161.add (((ji6)).toNat * 12)).block, (ad161.add (((ji6)).toNat * 12)).off + 2, none⟩ = some (.string ((rd_T49 x3_1 (ji6)).f0.f2)) ∧ w'.cell? ⟨(ad161.add (((ji6)).toNat * 12)).block, (ad161.add (((ji6)).toNat * 12)).off + 3, none⟩ = some (.int .i64 ((rd_T49 x3_1 (ji6)).f1.f0)) ∧ w'.cell? ⟨(ad161.add (((ji6)).toNat * 12)).block, (ad161.add (((ji6)).toNat * 12)).off + 4, none⟩ = some (.int .i64 ((rd_T49 x3_1 (ji6)).f1.f1)) ∧ w'.cell? ⟨(ad161.add (((ji6)).toNat * 12)).block, (ad161.add (((ji6)).toNat * 12)).off + 5, none⟩ = some (.int .i64 ((rd_T49 x3_1 (ji6)).f1.f2)) ∧ w'.cell? ⟨(ad161.add (((ji6)).toNat * 12)).block, (ad161.add (((ji6)).toNat * 12)).off + 6, none⟩ = some (.bool ((rd_T49 x3_1 (ji6)).f1.f3.f0)) ∧ w'.cell? ⟨(ad161.add (((ji6)).toNat * 12)).block, (ad161.add (((ji6)).toNat * 12)).off + 7, none⟩ = some (.int .i64 ((rd_T49 x3_1 (ji6)).f1.f3.f1)) ∧ w'.cell? ⟨(ad161.add (((ji6)).toNat * 12)).block, (ad161.add (((ji6)).toNat * 12)).off + 8, none⟩ = some (.string ((rd_T49 x3_1 (ji6)).f1.f3.f2)) ∧ w'.cell? ⟨(ad161.add (((ji6)).toNat * 12)).block, (ad161.add (((ji6)).toNat * 12)).off + 9, none⟩ = some (.bool ((rd_T49 x3_1 (ji6)).f1.f4.f0)) ∧ w'.cell? ⟨(ad161.add (((ji6)).toNat * 12)).block, (ad161.add (((ji6)).toNat * 12)).off + 10, none⟩ = some (.int .i64 ((rd_T49 x3_1 (ji6)).f1.f4.f1)) ∧ w'.cell? ⟨(ad161.add (((ji6)).toNat * 12)).block, (ad161.add (((ji6)).toNat * 12)).off + 11, none⟩ = some (.string ((rd_T49 x3_1 (ji6)).f1.f4.f2))) (ds := [12]) #[false, false, false, false, false, false, false, false, false, false, false, false, false] (by kernel_rfl) rfl rfl ⟨(blk_cell BK160.out 0).trans rfl, (blk_cell BK160.out 1).trans rfl, (blk_cell BK160.out 2).trans rfl, (blk_cell BK160.out 3).trans rfl, (blk_cell BK160.out 4).trans rfl, (blk_cell BK160.out 5).trans rfl, (blk_cell BK160.out 6).trans rfl, (blk_cell BK160.out 7).trans rfl, (blk_cell BK160.out 8).trans rfl, (blk_cell BK160.out 9).trans rfl, (blk_cell BK160.out 10).trans rfl, (blk_cell BK160.out 11).trans rfl, hx163_0, hx163_1, hx163_2, hx163_3, hx163_4, hx163_5, hx163_6, hx163_7, hx163_8, hx163_9, hx163_10, hx163_11⟩ (fun hHeld => ?_); refine with_tabW groups_gather.tab7 groups_gather.bits7 (fun HT_ HW_ => ?_)
          generalize w18.drew = w19 at HO_3 BK160 HB hx163_0 hx163_1 hx163_10 hx163_11 hx163_2 hx163_3 hx163_4 hx163_5 hx163_6 hx163_7 hx163_8 hx163_9 hHeld ⊢
          refine pure_ (i := 0) (N := some 27) (v := ?_) (a' := ?_) #[true, false, false, false, false, false, false, false, false, false, false, false, false] rfl rfl (any_of HT_.out (by kernel_rfl)) (fun _ _ _ h => h) (Or.inl ⟨by rfl, ?_⟩) ?_ ?_
          rotate_left
          ·intro w'
           go_simp
           with_reducible rfl
          rotate_left
          ·simp only [Act.put, List.setIfInBounds_toArray, List.set_cons_zero, List.set_cons_succ, i64_w, i32_w]
           rfl
          refine pure_ (i := 1) (N := some 28) (v := ?_) (a' := ?_) #[true, true, false, false, false, false, false, false, false, false, false, false, false] rfl rfl (any_of HT_.out (by kernel_rfl)) (fun _ _ _ h => h) (Or.inl ⟨by rfl, ?_⟩) ?_ ?_
          rotate_left
          ·intro w'
           go_simp
           with_reducible rfl
          rotate_left
          ·simp only [Act.put, List.setIfInBounds_toArray, List.set_cons_zero, List.set_cons_succ, i64_w, i32_w]
           rfl
          refine pure_ (i := 2) (N := some 29) (v := ?_) (a' := ?_) #[true, true, true, false, false, false, false, false, false, false, false, false, false] rfl rfl (any_of HT_.out (by kernel_rfl)) (fun _ _ _ h => h) (Or.inl ⟨by rfl, ?_⟩) ?_ ?_
          rotate_left
          ·intro w'
           go_simp
           with_reducible rfl
          rotate_left
          ·simp only [Act.put, List.setIfInBounds_toArray, List.set_cons_zero, List.set_cons_succ, i64_w, i32_w]
           rfl
          refine pure_ (i := 3) (N := some 30) (v := ?_) (a' := ?_) #[true, true, true, true, false, false, false, false, false, false, false, false, false] rfl rfl (any_of HT_.out (by kernel_rfl)) (fun _ _ _ h => h) (Or.inl ⟨by rfl, ?_⟩) ?_ ?_
          rotate_left
          ·intro w'
           go_simp
           with_reducible rfl
          rotate_left
          ·simp only [Act.put, List.setIfInBounds_toArray, List.set_cons_zero, List.set_cons_succ, i64_w, i32_w]
           rfl
          refine pure_ (i := 4) (N := some 31) (v := ?_) (a' := ?_) #[true, true, true, true, true, false, false, false, false, false, false, false, false] rfl rfl (any_of HT_.out (by kernel_rfl)) (fun _ _ _ h => h) (Or.inl ⟨by rfl, ?_⟩) ?_ ?_
          rotate_left
          ·intro w'
           go_simp
           with_reducible rfl
          rotate_left
          ·simp only [Act.put, List.setIfInBounds_toArray, List.set_cons_zero, List.set_cons_succ, i64_w, i32_w]
           rfl
          refine pure_ (i := 5) (N := some 32) (v := ?_) (a' := ?_) #[true, true, true, true, true, true, false, false, false, false, false, false, false] rfl rfl (any_of HT_.out (by kernel_rfl)) (fun _ _ _ h => h) (Or.inl ⟨by rfl, ?_⟩) ?_ ?_
          rotate_left
          ·intro w'
           go_simp
           with_reducible rfl
          rotate_left
          ·simp only [Act.put, List.setIfInBounds_toArray, List.set_cons_zero, List.set_cons_succ, i64_w, i32_w]
           rfl
          refine pure_ (i := 7) (N := some 34) (v := ?_) (a' := ?_) #[true, true, true, true, true, true, false, true, false, false, false, false, false] rfl rfl (any_of HT_.out (by kernel_rfl)) (fun _ _ _ h => h) (Or.inl ⟨by rfl, ?_⟩) ?_ ?_
          rotate_left
          ·intro w'
           go_simp
           with_reducible rfl
          rotate_left
          ·simp only [Act.put, List.setIfInBounds_toArray, List.set_cons_zero, List.set_cons_succ, i64_w, i32_w]
           rfl
          refine take_ (i := 6) (N := some 33) (v := ?_) (a' := ?_) #[true, true, true, true, true, true, true, true, false, false, false, false, false] rfl rfl (take_ofW HT_.out HW_.out (by kernel_rfl)) (fun _ _ _ h => h) (Or.inl ⟨by rfl, ?_⟩) hHeld ?_ ?_
          rotate_left
          ·rintro w' ⟨s0, s1, s2, s3, s4, s5, s6, s7, s8, s9, s10, s11, s12, s13, s14, s15, s16, s17, s18, s19, s20, s21, s22, s23⟩
           go_simp
           with_reducible rfl
          rotate_left
          ·simp only [Act.put, List.setIfInBounds_toArray, List.set_cons_zero, List.set_cons_succ, i64_w, i32_w]
           rfl
          refine take_ (i := 8) (N := some 35) (v := ?_) (a' := ?_) #[true, true, true, true, true, true, true, true, true, false, false, false, false] rfl rfl (take_ofW HT_.out HW_.out (by kernel_rfl)) (fun _ _ _ h => h) (Or.inl ⟨by rfl, ?_⟩) hHeld ?_ ?_
          rotate_left
          ·rintro w' ⟨s0, s1, s2, s3, s4, s5, s6, s7, s8, s9, s10, s11, s12, s13, s14, s15, s16, s17, s18, s19, s20, s21, s22, s23⟩
           go_simp
           with_reducible rfl
          rotate_left
          ·simp only [Act.put, List.setIfInBounds_toArray, List.set_cons_zero, List.set_cons_succ, i64_w, i32_w]
           rfl
          refine one_ (i := 9) (N := some 36) #[true, true, true, true, true, true, true, true, true, true, false, false, false] rfl rfl (one_of HT_.out (by kernel_rfl)) (by decide) (fun K hK => ?_)
          refine goes_ Try.func60 (by kernel_rfl) rfl #[.agg #[.int .i64 ((rd_T49 x3_1 (ji6)).f1.f0), .int .i64 ((rd_T49 x3_1 (ji6)).f1.f1), .int .i64 ((rd_T49 x3_1 (ji6)).f1.f2), .bool ((rd_T49 x3_1 (ji6)).f1.f3.f0), .int .i64 ((rd_T49 x3_1 (ji6)).f1.f3.f1), .string ((rd_T49 x3_1 (ji6)).f1.f3.f2), .bool ((rd_T49 x3_1 (ji6)).f1.f4.f0), .int .i64 ((rd_T49 x3_1 (ji6)).f1.f4.f1), .string ((rd_T49 x3_1 (ji6)).f1.f4.f2)], .agg #[.int .i64 ((rd_T49 l0 x9_1).f1.f0), .int .i64 ((rd_T49 l0 x9_1).f1.f1), .int .i64 ((rd_T49 l0 x9_1).f1.f2), .bool ((rd_T49 l0 x9_1).f1.f3.f0), .int .i64 ((rd_T49 l0 x9_1).f1.f3.f1), .string ((rd_T49 l0 x9_1).f1.f3.f2), .bool ((rd_T49 l0 x9_1).f1.f4.f0), .int .i64 ((rd_T49 l0 x9_1).f1.f4.f1), .string ((rd_T49 l0 x9_1).f1.f4.f2)]] (by rfl) rfl rfl (by (try simp only [List.map_toArray, List.map_cons, List.map_nil]); first | done | (simp only [hji6]; rfl) | rfl | (simp only [List.length_drop, List.length_take]; rfl)) ?_
          with_reducible refine (sums_Join_c.calls ((rd_T49 x3_1 (ji6)).f1.f0) ((rd_T49 x3_1 (ji6)).f1.f1) ((rd_T49 x3_1 (ji6)).f1.f2) ((rd_T49 x3_1 (ji6)).f1.f3.f0) ((rd_T49 x3_1 (ji6)).f1.f3.f1) ((rd_T49 x3_1 (ji6)).f1.f3.f2) ((rd_T49 x3_1 (ji6)).f1.f4.f0) ((rd_T49 x3_1 (ji6)).f1.f4.f1) ((rd_T49 x3_1 (ji6)).f1.f4.f2) ((rd_T49 l0 x9_1).f1.f0) ((rd_T49 l0 x9_1).f1.f1) ((rd_T49 l0 x9_1).f1.f2) ((rd_T49 l0 x9_1).f1.f3.f0) ((rd_T49 l0 x9_1).f1.f3.f1) ((rd_T49 l0 x9_1).f1.f3.f2) ((rd_T49 l0 x9_1).f1.f4.f0) ((rd_T49 l0 x9_1).f1.f4.f1) ((rd_T49 l0 x9_1).f1.f4.f2) t164 t165 t166 t167 t168 t169 t170 t171 t172 _ A11.out).mono ?_
          rintro e w20 ⟨rfl, hb⟩
          have HS12_ := (hb.cell (World.block_lt_of_cell? _ _ (hHeld.2.2.2.2.2.2.2.2.2.2.2.2.1))).trans (hHeld.2.2.2.2.2.2.2.2.2.2.2.2.1)
          have HS13_ := (hb.cell (World.block_lt_of_cell? _ _ (hHeld.2.2.2.2.2.2.2.2.2.2.2.2.2.1))).trans (hHeld.2.2.2.2.2.2.2.2.2.2.2.2.2.1)
          have HS14_ := (hb.cell (World.block_lt_of_cell? _ _ (hHeld.2.2.2.2.2.2.2.2.2.2.2.2.2.2.1))).trans (hHeld.2.2.2.2.2.2.2.2.2.2.2.2.2.2.1)
          have HS15_ := (hb.cell (World.block_lt_of_cell? _ _ (hHeld.2.2.2.2.2.2.2.2.2.2.2.2.2.2.2.1))).trans (hHeld.2.2.2.2.2.2.2.2.2.2.2.2.2.2.2.1)
          have HS16_ := (hb.cell (World.block_lt_of_cell? _ _ (hHeld.2.2.2.2.2.2.2.2.2.2.2.2.2.2.2.2.1))).trans (hHeld.2.2.2.2.2.2.2.2.2.2.2.2.2.2.2.2.1)
          have HS17_ := (hb.cell (World.block_lt_of_cell? _ _ (hHeld.2.2.2.2.2.2.2.2.2.2.2.2.2.2.2.2.2.1))).trans (hHeld.2.2.2.2.2.2.2.2.2.2.2.2.2.2.2.2.2.1)
          have HS18_ := (hb.cell (World.block_lt_of_cell? _ _ (hHeld.2.2.2.2.2.2.2.2.2.2.2.2.2.2.2.2.2.2.1))).trans (hHeld.2.2.2.2.2.2.2.2.2.2.2.2.2.2.2.2.2.2.1)
          have HS19_ := (hb.cell (World.block_lt_of_cell? _ _ (hHeld.2.2.2.2.2.2.2.2.2.2.2.2.2.2.2.2.2.2.2.1))).trans (hHeld.2.2.2.2.2.2.2.2.2.2.2.2.2.2.2.2.2.2.2.1)
          have HS20_ := (hb.cell (World.block_lt_of_cell? _ _ (hHeld.2.2.2.2.2.2.2.2.2.2.2.2.2.2.2.2.2.2.2.2.1))).trans (hHeld.2.2.2.2.2.2.2.2.2.2.2.2.2.2.2.2.2.2.2.2.1)
          have HS21_ := (hb.cell (World.block_lt_of_cell? _ _ (hHeld.2.2.2.2.2.2.2.2.2.2.2.2.2.2.2.2.2.2.2.2.2.1))).trans (hHeld.2.2.2.2.2.2.2.2.2.2.2.2.2.2.2.2.2.2.2.2.2.1)
          have HS22_ := (hb.cell (World.block_lt_of_cell? _ _ (hHeld.2.2.2.2.2.2.2.2.2.2.2.2.2.2.2.2.2.2.2.2.2.2.1))).trans (hHeld.2.2.2.2.2.2.2.2.2.2.2.2.2.2.2.2.2.2.2.2.2.2.1)
          have HS23_ := (hb.cell (World.block_lt_of_cell? _ _ (hHeld.2.2.2.2.2.2.2.2.2.2.2.2.2.2.2.2.2.2.2.2.2.2.2))).trans (hHeld.2.2.2.2.2.2.2.2.2.2.2.2.2.2.2.2.2.2.2.2.2.2.2)
          refine ⟨_, rfl, ?_⟩
          have n0_ := Aside0.mk (Kd.R_below (by (with_reducible repeat (first | apply Kd.R_alloc | apply Kd.R_drewN | apply Kd.R_drew)); exact HO_3.out) hb)
          have n1_ := Aside0.mk (blk_below (g := gb160) (o := .cells #[.bool ((rd_T49 l0 x9_1).f0.f0), .int .i64 ((rd_T49 l0 x9_1).f0.f1), .string ((rd_T49 l0 x9_1).f0.f2), .int .i64 ((rd_T49 l0 x9_1).f1.f0), .int .i64 ((rd_T49 l0 x9_1).f1.f1), .int .i64 ((rd_T49 l0 x9_1).f1.f2), .bool ((rd_T49 l0 x9_1).f1.f3.f0), .int .i64 ((rd_T49 l0 x9_1).f1.f3.f1), .string ((rd_T49 l0 x9_1).f1.f3.f2), .bool ((rd_T49 l0 x9_1).f1.f4.f0), .int .i64 ((rd_T49 l0 x9_1).f1.f4.f1), .string ((rd_T49 l0 x9_1).f1.f4.f2)] 49 (0, 0)) (by (with_reducible repeat (first | refine blk_drewN ?_ _ | refine blk_drew ?_ | refine blk_alloc ?_ _)); exact BK160.out) hb)
          have n2_ := Aside0.mk (below_step (by with_reducible repeat first | exact HB.out | apply below_alloc | apply pw_below_drewN | apply below_drew1 | refine below_set ?_ GE160.out) hb)
          clear HO_3
          clear BK160
          clear HB
          have HO_3 := n0_
          have BK160 := n1_
          have HB := n2_
          clear n0_ n1_ n2_
          (try clear hb)
          (try clear hb2)
          (try clear hk)
          (try clear hi)
          have p12 : 0 ≤ ((ji6) : Int) := of_decide_eq_true (by with_reducible assumption)
          have q12 : ((ji6) : Int) < ((x3_1.length : Int) : Int) := of_decide_eq_true (by with_reducible assumption)
          obtain ⟨go12, co12, eo12, gb12, gl12, cl12, HG12⟩ := Kd.R_form HO_3.out (by omega)
          (first | cases eo12 | (injection eo12 with ea_ en_ ec_; (first | subst ea_ | (injection ea_ with ea_; subst ea_)); subst ec_; clear en_))
          have GB12 := Aside0.mk gb12
          have GG12 := Aside0.mk HG12
          clear gb12 gl12 HG12
          (first | simp only [add_plain] at hx161_0 | skip)
          (first | simp only [add_plain] at hx161_1 | skip)
          (first | simp only [add_plain] at hx161_2 | skip)
          (first | simp only [add_plain] at hx161_3 | skip)
          (first | simp only [add_plain] at hx161_4 | skip)
          (first | simp only [add_plain] at hx161_5 | skip)
          (first | simp only [add_plain] at hx161_6 | skip)
          (first | simp only [add_plain] at hx161_7 | skip)
          (first | simp only [add_plain] at hx161_8 | skip)
          (first | simp only [add_plain] at hx161_9 | skip)
          (first | simp only [add_plain] at hx161_10 | skip)
          (first | simp only [add_plain] at hx161_11 | skip)
          (first | simp only [add_plain] at hx163_0 | skip)
          (first | simp only [add_plain] at hx163_1 | skip)
          (first | simp only [add_plain] at hx163_2 | skip)
          (first | simp only [add_plain] at hx163_3 | skip)
          (first | simp only [add_plain] at hx163_4 | skip)
          (first | simp only [add_plain] at hx163_5 | skip)
          (first | simp only [add_plain] at hx163_6 | skip)
          (first | simp only [add_plain] at hx163_7 | skip)
          (first | simp only [add_plain] at hx163_8 | skip)
          (first | simp only [add_plain] at hx163_9 | skip)
          (first | simp only [add_plain] at hx163_10 | skip)
          (first | simp only [add_plain] at hx163_11 | skip)
          obtain ⟨ce12, hcl12, hM12, hcc12, hfr12⟩ := Kd.R_elem HO_3.out z49 ((ji6) : Int) p12 q12
          obtain rfl := k49_openM hM12
          have hx12_0 : World.cell? _ ⟨go12, ((ji6) : Int).toNat * 12, none⟩ = some (.bool ((rd_T49 x3_1 (ji6)).f0.f0)) := hcc12 0 _ rfl
          have hx12_1 : World.cell? _ ⟨go12, ((ji6) : Int).toNat * 12 + 1, none⟩ = some (.int .i64 ((rd_T49 x3_1 (ji6)).f0.f1)) := hcc12 1 _ rfl
          have hx12_2 : World.cell? _ ⟨go12, ((ji6) : Int).toNat * 12 + 2, none⟩ = some (.string ((rd_T49 x3_1 (ji6)).f0.f2)) := hcc12 2 _ rfl
          have hx12_3 : World.cell? _ ⟨go12, ((ji6) : Int).toNat * 12 + 3, none⟩ = some (.int .i64 ((rd_T49 x3_1 (ji6)).f1.f0)) := hcc12 3 _ rfl
          have hx12_4 : World.cell? _ ⟨go12, ((ji6) : Int).toNat * 12 + 4, none⟩ = some (.int .i64 ((rd_T49 x3_1 (ji6)).f1.f1)) := hcc12 4 _ rfl
          have hx12_5 : World.cell? _ ⟨go12, ((ji6) : Int).toNat * 12 + 5, none⟩ = some (.int .i64 ((rd_T49 x3_1 (ji6)).f1.f2)) := hcc12 5 _ rfl
          have hx12_6 : World.cell? _ ⟨go12, ((ji6) : Int).toNat * 12 + 6, none⟩ = some (.bool ((rd_T49 x3_1 (ji6)).f1.f3.f0)) := hcc12 6 _ rfl
          have hx12_7 : World.cell? _ ⟨go12, ((ji6) : Int).toNat * 12 + 7, none⟩ = some (.int .i64 ((rd_T49 x3_1 (ji6)).f1.f3.f1)) := hcc12 7 _ rfl
          have hx12_8 : World.cell? _ ⟨go12, ((ji6) : Int).toNat * 12 + 8, none⟩ = some (.string ((rd_T49 x3_1 (ji6)).f1.f3.f2)) := hcc12 8 _ rfl
          have hx12_9 : World.cell? _ ⟨go12, ((ji6) : Int).toNat * 12 + 9, none⟩ = some (.bool ((rd_T49 x3_1 (ji6)).f1.f4.f0)) := hcc12 9 _ rfl
          have hx12_10 : World.cell? _ ⟨go12, ((ji6) : Int).toNat * 12 + 10, none⟩ = some (.int .i64 ((rd_T49 x3_1 (ji6)).f1.f4.f1)) := hcc12 10 _ rfl
          have hx12_11 : World.cell? _ ⟨go12, ((ji6) : Int).toNat * 12 + 11, none⟩ = some (.string ((rd_T49 x3_1 (ji6)).f1.f4.f2)) := hcc12 11 _ rfl
          have hf12_0 : World.frozen? _ ⟨go12, ((ji6) : Int).toNat * 12, none⟩ = false := hfr12 0
          have hf12_1 : World.frozen? _ ⟨go12, ((ji6) : Int).toNat * 12 + 1, none⟩ = false := hfr12 1
          have hf12_2 : World.frozen? _ ⟨go12, ((ji6) : Int).toNat * 12 + 2, none⟩ = false := hfr12 2
          have hf12_3 : World.frozen? _ ⟨go12, ((ji6) : Int).toNat * 12 + 3, none⟩ = false := hfr12 3
          have hf12_4 : World.frozen? _ ⟨go12, ((ji6) : Int).toNat * 12 + 4, none⟩ = false := hfr12 4
          have hf12_5 : World.frozen? _ ⟨go12, ((ji6) : Int).toNat * 12 + 5, none⟩ = false := hfr12 5
          have hf12_6 : World.frozen? _ ⟨go12, ((ji6) : Int).toNat * 12 + 6, none⟩ = false := hfr12 6
          have hf12_7 : World.frozen? _ ⟨go12, ((ji6) : Int).toNat * 12 + 7, none⟩ = false := hfr12 7
          have hf12_8 : World.frozen? _ ⟨go12, ((ji6) : Int).toNat * 12 + 8, none⟩ = false := hfr12 8
          have hf12_9 : World.frozen? _ ⟨go12, ((ji6) : Int).toNat * 12 + 9, none⟩ = false := hfr12 9
          have hf12_10 : World.frozen? _ ⟨go12, ((ji6) : Int).toNat * 12 + 10, none⟩ = false := hfr12 10
          have hf12_11 : World.frozen? _ ⟨go12, ((ji6) : Int).toNat * 12 + 11, none⟩ = false := hfr12 11
          clear hcl12 hcc12 hfr12 hM12
          replace p12 := eq_true p12
          replace q12 := eq_true q12
          obtain ⟨ce21, hcl21, hM21, hcc21, hfr21⟩ := Kd.R_elem HO_3.out z49 ((ji6) : Int) (of_decide_eq_true (by with_reducible assumption)) (by have h_ : ((ji6) : Int) < ((x3_1.length : Int) : Int) := of_decide_eq_true (by with_reducible assumption); first | exact h_ | (have e_ := (Kd.R_reads' HO_3.out).1; omega) | simpa using h_)
          obtain rfl := k49_openM hM21
          have HP21 := (Kd.R_seg HO_3.out ((ji6) : Int) (of_decide_eq_true (by with_reducible assumption)) (by have h_ : ((ji6) : Int) < ((x3_1.length : Int) : Int) := of_decide_eq_true (by with_reducible assumption); first | exact h_ | (have e_ := (Kd.R_reads' HO_3.out).1; omega) | simpa using h_) (seg := [.int .i64 t164, .int .i64 t165, .int .i64 t166, .bool t167, .int .i64 t168, .string t169, .bool t170, .int .i64 t171, .string t172]) (j := 3) hcl21 hcc21 (show 12 ≤ 12 from by decide) (x' := (⟨(⟨(rd_T49 x3_1 (ji6)).f0.f0, (rd_T49 x3_1 (ji6)).f0.f1, (rd_T49 x3_1 (ji6)).f0.f2⟩ : S37), (⟨t164, t165, t166, (⟨t167, t168, t169⟩ : S37), (⟨t170, t171, t172⟩ : S37)⟩ : S47)⟩ : S49)) (k49_mkM _ _ _ (⟨(⟨(rd_T49 x3_1 (ji6)).f0.f0, (rd_T49 x3_1 (ji6)).f0.f1, (rd_T49 x3_1 (ji6)).f0.f2⟩ : S37), (⟨t164, t165, t166, (⟨t167, t168, t169⟩ : S37), (⟨t170, t171, t172⟩ : S37)⟩ : S47)⟩ : S49) ) (fun _ hk => hk)).1
          rw [← Ny173.out] at HP21
          have HQ21 := Aside0.mk HP21
          clear hcl21 hcc21 hfr21 hM21 HP21
          refine hK.out _ _ ⟨(blk_cell BK160.out 0).trans rfl, (blk_cell BK160.out 1).trans rfl, (blk_cell BK160.out 2).trans rfl, (blk_cell BK160.out 3).trans rfl, (blk_cell BK160.out 4).trans rfl, (blk_cell BK160.out 5).trans rfl, (blk_cell BK160.out 6).trans rfl, (blk_cell BK160.out 7).trans rfl, (blk_cell BK160.out 8).trans rfl, (blk_cell BK160.out 9).trans rfl, (blk_cell BK160.out 10).trans rfl, (blk_cell BK160.out 11).trans rfl, HS12_, HS13_, HS14_, HS15_, HS16_, HS17_, HS18_, HS19_, HS20_, HS21_, HS22_, HS23_⟩ (fun hHeld => ?_)
          clear hK K
          refine norm_ (a' := ?_) ?_ ?_
          rotate_left
          ·show Act.put _ (some 36) _ = _
           simp only [Act.put, List.setIfInBounds_toArray, List.set_cons_zero, List.set_cons_succ, i64_w, i32_w]
           rfl
          refine pure_ (i := 10) (N := some 37) (v := ?_) (a' := ?_) #[true, true, true, true, true, true, true, true, true, true, true, false, false] rfl rfl (any_of HT_.out (by kernel_rfl)) (fun _ _ _ h => h) (Or.inl ⟨by rfl, ?_⟩) ?_ ?_
          rotate_left
          ·intro w'
           go_simp
           with_reducible rfl
          rotate_left
          ·simp only [Act.put, List.setIfInBounds_toArray, List.set_cons_zero, List.set_cons_succ, i64_w, i32_w]
           rfl
          refine pure_ (i := 11) (N := some 38) (v := ?_) (a' := ?_) #[true, true, true, true, true, true, true, true, true, true, true, true, false] rfl rfl (any_of HT_.out (by kernel_rfl)) (fun _ _ _ h => h) (Or.inl ⟨by rfl, ?_⟩) ?_ ?_
          rotate_left
          ·intro w'
           go_simp
           with_reducible rfl
          rotate_left
          ·simp only [Act.put, List.setIfInBounds_toArray, List.set_cons_zero, List.set_cons_succ, i64_w, i32_w]
           rfl
          refine last_ (i := 12) (N := none) #[true, true, true, true, true, true, true, true, true, true, true, true, true] rfl rfl (one_of HT_.out (by kernel_rfl)) (by decide) (fun K hK => ?_)
          refine skip_ (w1 := ?_) (by rfl) rfl ?_ ?_
          rotate_left
          ·go_simp
           rfl
          refine hK.out _ _ ?_
          clear hK K
          refine done_ (done_of HT_.out (by kernel_rfl)) ?_
          try go_wp2
          go_roundg k1
          case measure => have := HK1.out; omega
          case rel => exact ⟨(y173), (wrap64 (x9_1 + 1)), (by first | rfl | (simp; done) | (simp [*]; done)), H', ⟨by have := HK1.out; omega⟩, ⟨by (with_reducible repeat (first | apply Kd.R_alloc | apply Kd.R_drewN | apply Kd.R_drew)); exact Kd.R_mono HQ21.out (fun _ hk => trivial)⟩, ⟨by repeat (first | (with_reducible first | exact HB.out | apply below_alloc | apply pw_below_drewN | apply below_drew1 | refine below_set ?_ GB12.out | refine below_set ?_ GB12.out | refine below_set ?_ GB12.out | refine below_set ?_ GB12.out | refine below_set ?_ GB12.out | refine below_set ?_ GB12.out | refine below_set ?_ GB12.out | refine below_set ?_ GB12.out | refine below_set ?_ GB12.out | refine below_set ?_ GE160.out) | exact HB.out)⟩⟩
         ·rw [if_neg c10] at H
          have c10b0 : (t162 == 0) = false := beq_eq_false_iff_ne.mpr c10
          have c10b1 : (t162 != 0) = true := bne_iff_ne.mpr c10
          by_cases c22 : x3_1.length < 1172812402961
          ·rw [if_pos c22] at H
           have LMc22 := Aside0.mk c22
           clear c22
           obtain ⟨y174, hy174⟩ : ∃ y_ : List (S49), y_ = (x3_1 ++ [(⟨(⟨(rd_T49 l0 x9_1).f0.f0, (rd_T49 l0 x9_1).f0.f1, (rd_T49 l0 x9_1).f0.f2⟩ : S37), (⟨(rd_T49 l0 x9_1).f1.f0, (rd_T49 l0 x9_1).f1.f1, (rd_T49 l0 x9_1).f1.f2, (⟨(rd_T49 l0 x9_1).f1.f3.f0, (rd_T49 l0 x9_1).f1.f3.f1, (rd_T49 l0 x9_1).f1.f3.f2⟩ : S37), (⟨(rd_T49 l0 x9_1).f1.f4.f0, (rd_T49 l0 x9_1).f1.f4.f1, (rd_T49 l0 x9_1).f1.f4.f2⟩ : S37)⟩ : S47)⟩ : S49)]) := ⟨_, rfl⟩
           replace H : (groups_gather.l0 k1 y174 l0 (l0.length : Int) (wrap64 (x9_1 + 1))) = some r := by first | (rw [hy174]; with_reducible exact H) | (have H2_ := (Option.bind_some _ _).symm.trans H; rw [hy174]; with_reducible exact H2_) | (have H2_ := (Option.bind_some _ _).symm.trans H; with_reducible exact H2_) | with_reducible exact H | (rw [hy174]; exact H) | exact H
           have Ny174 := Aside0.mk hy174
           clear hy174
           have H' := Aside0.mk H
           clear H
           have p159 : 0 ≤ (x9_1 : Int) := of_decide_eq_true (by with_reducible assumption)
           have q159 : x9_1 < (l0.length : Int) := of_decide_eq_true (by with_reducible assumption)
           obtain ⟨ad159, e159, hx159_0, hx159_1, hx159_2, hx159_3, hx159_4, hx159_5, hx159_6, hx159_7, hx159_8, hx159_9, hx159_10, hx159_11⟩ := at_T49 HR0.out x9_1 p159 q159
           cases e159
           replace hx159_0 := pw_cell_below HB.out hx159_0
           replace hx159_1 := pw_cell_below HB.out hx159_1
           replace hx159_2 := pw_cell_below HB.out hx159_2
           replace hx159_3 := pw_cell_below HB.out hx159_3
           replace hx159_4 := pw_cell_below HB.out hx159_4
           replace hx159_5 := pw_cell_below HB.out hx159_5
           replace hx159_6 := pw_cell_below HB.out hx159_6
           replace hx159_7 := pw_cell_below HB.out hx159_7
           replace hx159_8 := pw_cell_below HB.out hx159_8
           replace hx159_9 := pw_cell_below HB.out hx159_9
           replace hx159_10 := pw_cell_below HB.out hx159_10
           replace hx159_11 := pw_cell_below HB.out hx159_11
           replace p159 := eq_true p159
           replace q159 := eq_true q159
           try go_wp2_with (first | ((with_reducible refine gate_dst (N := 5) rfl ?_); refine box_event ?hg (N := 5) ?hd (cs := #[.bool false, .int .i64 0, .string (⟨#[]⟩ : ByteArray), .int .i64 0, .int .i64 0, .int .i64 0, .bool false, .int .i64 0, .string (⟨#[]⟩ : ByteArray), .bool false, .int .i64 0, .string (⟨#[]⟩ : ByteArray)]) (t := 49) ?hr ?_; (case hd => rfl); (case hg => rfl); (case hr => first | (go_simp; done) | (go_simp; rfl)); intro gb160 hg w23 hbox hb; have n0_ := Aside0.mk (Kd.R_below (Kd.R_elderB (by (with_reducible repeat (first | apply Kd.R_alloc | apply Kd.R_drewN | apply Kd.R_drew)); exact HO_3.out) gb160 (Nat.le_of_eq hg.symm)) hb); have n1_ := Aside0.mk (below_step (by with_reducible repeat first | exact HB.out | apply below_alloc | apply pw_below_drewN | apply below_drew1) hb); have n2_ := Aside0.mk (hbox); have n3_ := Aside0.mk ((by rw [hg]; exact (below_size (by with_reducible repeat first | exact HB.out | apply below_alloc | apply pw_below_drewN | apply below_drew1)) : w.heap.size ≤ gb160)); have n4_ := Aside0.mk ((by rw [hg]; exact (below_size (by with_reducible repeat first | exact HB.out | apply below_alloc | apply pw_below_drewN | apply below_drew1)) : w.heap.size ≤ gb160)); clear HO_3; clear HB; have HO_3 := n0_; have HB := n1_; have BK160 := n2_; have GW160 := n3_; have GE160 := n4_; clear n0_ n1_ n2_ n3_ n4_; clear hb hbox hg; obtain ⟨hcz24_0, hcz24_1, hcz24_2, hcz24_3, hcz24_4, hcz24_5, hcz24_6, hcz24_7, hcz24_8, hcz24_9, hcz24_10, hcz24_11⟩ := bc12 BK160.out; obtain ⟨hfz24_0, hfz24_1, hfz24_2, hfz24_3, hfz24_4, hfz24_5, hfz24_6, hfz24_7, hfz24_8, hfz24_9, hfz24_10, hfz24_11⟩ := bf12 BK160.out; obtain ⟨Ao25, co25, eo25⟩ := Kd.R_slice HO_3.out; subst eo25))
           have n0_ : Aside0 (Kd.R k49 49 ((((((((((((w23.setCell ⟨gb160, 0, none⟩ (.bool ((rd_T49 l0 x9_1).f0.f0))).setCell ⟨gb160, 1, none⟩ (.int .i64 ((rd_T49 l0 x9_1).f0.f1))).setCell ⟨gb160, 2, none⟩ (.string ((rd_T49 l0 x9_1).f0.f2))).setCell ⟨gb160, 3, none⟩ (.int .i64 ((rd_T49 l0 x9_1).f1.f0))).setCell ⟨gb160, 4, none⟩ (.int .i64 ((rd_T49 l0 x9_1).f1.f1))).setCell ⟨gb160, 5, none⟩ (.int .i64 ((rd_T49 l0 x9_1).f1.f2))).setCell ⟨gb160, 6, none⟩ (.bool ((rd_T49 l0 x9_1).f1.f3.f0))).setCell ⟨gb160, 7, none⟩ (.int .i64 ((rd_T49 l0 x9_1).f1.f3.f1))).setCell ⟨gb160, 8, none⟩ (.string ((rd_T49 l0 x9_1).f1.f3.f2))).setCell ⟨gb160, 9, none⟩ (.bool ((rd_T49 l0 x9_1).f1.f4.f0))).setCell ⟨gb160, 10, none⟩ (.int .i64 ((rd_T49 l0 x9_1).f1.f4.f1))).setCell ⟨gb160, 11, none⟩ (.string ((rd_T49 l0 x9_1).f1.f4.f2))) w.heap.size (fun k_ => k_ ≠ gb160) (.slice Ao25 x3_1.length co25) x3_1) := ⟨by (with_reducible repeat (first | apply Kd.R_alloc | apply Kd.R_drewN | apply Kd.R_drew)); exact Kd.R_mono (Kd.R_far (p := ⟨gb160, 11, none⟩) (Kd.R_far (p := ⟨gb160, 10, none⟩) (Kd.R_far (p := ⟨gb160, 9, none⟩) (Kd.R_far (p := ⟨gb160, 8, none⟩) (Kd.R_far (p := ⟨gb160, 7, none⟩) (Kd.R_far (p := ⟨gb160, 6, none⟩) (Kd.R_far (p := ⟨gb160, 5, none⟩) (Kd.R_far (p := ⟨gb160, 4, none⟩) (Kd.R_far (p := ⟨gb160, 3, none⟩) (Kd.R_far (p := ⟨gb160, 2, none⟩) (Kd.R_far (p := ⟨gb160, 1, none⟩) (Kd.R_far (p := ⟨gb160, 0, none⟩) (Kd.R_mono HO_3.out (fun k_ hk => (⟨hk, hk.2⟩ : _ ∧ k_ ≠ gb160))) (fun _ hk => hk.2) (.bool ((rd_T49 l0 x9_1).f0.f0))) (fun _ hk => hk.2) (.int .i64 ((rd_T49 l0 x9_1).f0.f1))) (fun _ hk => hk.2) (.string ((rd_T49 l0 x9_1).f0.f2))) (fun _ hk => hk.2) (.int .i64 ((rd_T49 l0 x9_1).f1.f0))) (fun _ hk => hk.2) (.int .i64 ((rd_T49 l0 x9_1).f1.f1))) (fun _ hk => hk.2) (.int .i64 ((rd_T49 l0 x9_1).f1.f2))) (fun _ hk => hk.2) (.bool ((rd_T49 l0 x9_1).f1.f3.f0))) (fun _ hk => hk.2) (.int .i64 ((rd_T49 l0 x9_1).f1.f3.f1))) (fun _ hk => hk.2) (.string ((rd_T49 l0 x9_1).f1.f3.f2))) (fun _ hk => hk.2) (.bool ((rd_T49 l0 x9_1).f1.f4.f0))) (fun _ hk => hk.2) (.int .i64 ((rd_T49 l0 x9_1).f1.f4.f1))) (fun _ hk => hk.2) (.string ((rd_T49 l0 x9_1).f1.f4.f2))) (fun _ hk => hk.1.2)⟩
           have n1_ : Aside0 (((((((((((((w23.setCell ⟨gb160, 0, none⟩ (.bool ((rd_T49 l0 x9_1).f0.f0))).setCell ⟨gb160, 1, none⟩ (.int .i64 ((rd_T49 l0 x9_1).f0.f1))).setCell ⟨gb160, 2, none⟩ (.string ((rd_T49 l0 x9_1).f0.f2))).setCell ⟨gb160, 3, none⟩ (.int .i64 ((rd_T49 l0 x9_1).f1.f0))).setCell ⟨gb160, 4, none⟩ (.int .i64 ((rd_T49 l0 x9_1).f1.f1))).setCell ⟨gb160, 5, none⟩ (.int .i64 ((rd_T49 l0 x9_1).f1.f2))).setCell ⟨gb160, 6, none⟩ (.bool ((rd_T49 l0 x9_1).f1.f3.f0))).setCell ⟨gb160, 7, none⟩ (.int .i64 ((rd_T49 l0 x9_1).f1.f3.f1))).setCell ⟨gb160, 8, none⟩ (.string ((rd_T49 l0 x9_1).f1.f3.f2))).setCell ⟨gb160, 9, none⟩ (.bool ((rd_T49 l0 x9_1).f1.f4.f0))).setCell ⟨gb160, 10, none⟩ (.int .i64 ((rd_T49 l0 x9_1).f1.f4.f1))).setCell ⟨gb160, 11, none⟩ (.string ((rd_T49 l0 x9_1).f1.f4.f2))).heap[gb160]? = some (.cells #[.bool ((rd_T49 l0 x9_1).f0.f0), .int .i64 ((rd_T49 l0 x9_1).f0.f1), .string ((rd_T49 l0 x9_1).f0.f2), .int .i64 ((rd_T49 l0 x9_1).f1.f0), .int .i64 ((rd_T49 l0 x9_1).f1.f1), .int .i64 ((rd_T49 l0 x9_1).f1.f2), .bool ((rd_T49 l0 x9_1).f1.f3.f0), .int .i64 ((rd_T49 l0 x9_1).f1.f3.f1), .string ((rd_T49 l0 x9_1).f1.f3.f2), .bool ((rd_T49 l0 x9_1).f1.f4.f0), .int .i64 ((rd_T49 l0 x9_1).f1.f4.f1), .string ((rd_T49 l0 x9_1).f1.f4.f2)] 49 (0, 0))) := ⟨by refine blk_put (cs := #[.bool ((rd_T49 l0 x9_1).f0.f0), .int .i64 ((rd_T49 l0 x9_1).f0.f1), .string ((rd_T49 l0 x9_1).f0.f2), .int .i64 ((rd_T49 l0 x9_1).f1.f0), .int .i64 ((rd_T49 l0 x9_1).f1.f1), .int .i64 ((rd_T49 l0 x9_1).f1.f2), .bool ((rd_T49 l0 x9_1).f1.f3.f0), .int .i64 ((rd_T49 l0 x9_1).f1.f3.f1), .string ((rd_T49 l0 x9_1).f1.f3.f2), .bool ((rd_T49 l0 x9_1).f1.f4.f0), .int .i64 ((rd_T49 l0 x9_1).f1.f4.f1), .string (⟨#[]⟩ : ByteArray)]) ?_ 11 _ rfl; refine blk_put (cs := #[.bool ((rd_T49 l0 x9_1).f0.f0), .int .i64 ((rd_T49 l0 x9_1).f0.f1), .string ((rd_T49 l0 x9_1).f0.f2), .int .i64 ((rd_T49 l0 x9_1).f1.f0), .int .i64 ((rd_T49 l0 x9_1).f1.f1), .int .i64 ((rd_T49 l0 x9_1).f1.f2), .bool ((rd_T49 l0 x9_1).f1.f3.f0), .int .i64 ((rd_T49 l0 x9_1).f1.f3.f1), .string ((rd_T49 l0 x9_1).f1.f3.f2), .bool ((rd_T49 l0 x9_1).f1.f4.f0), .int .i64 0, .string (⟨#[]⟩ : ByteArray)]) ?_ 10 _ rfl; refine blk_put (cs := #[.bool ((rd_T49 l0 x9_1).f0.f0), .int .i64 ((rd_T49 l0 x9_1).f0.f1), .string ((rd_T49 l0 x9_1).f0.f2), .int .i64 ((rd_T49 l0 x9_1).f1.f0), .int .i64 ((rd_T49 l0 x9_1).f1.f1), .int .i64 ((rd_T49 l0 x9_1).f1.f2), .bool ((rd_T49 l0 x9_1).f1.f3.f0), .int .i64 ((rd_T49 l0 x9_1).f1.f3.f1), .string ((rd_T49 l0 x9_1).f1.f3.f2), .bool false, .int .i64 0, .string (⟨#[]⟩ : ByteArray)]) ?_ 9 _ rfl; refine blk_put (cs := #[.bool ((rd_T49 l0 x9_1).f0.f0), .int .i64 ((rd_T49 l0 x9_1).f0.f1), .string ((rd_T49 l0 x9_1).f0.f2), .int .i64 ((rd_T49 l0 x9_1).f1.f0), .int .i64 ((rd_T49 l0 x9_1).f1.f1), .int .i64 ((rd_T49 l0 x9_1).f1.f2), .bool ((rd_T49 l0 x9_1).f1.f3.f0), .int .i64 ((rd_T49 l0 x9_1).f1.f3.f1), .string (⟨#[]⟩ : ByteArray), .bool false, .int .i64 0, .string (⟨#[]⟩ : ByteArray)]) ?_ 8 _ rfl; refine blk_put (cs := #[.bool ((rd_T49 l0 x9_1).f0.f0), .int .i64 ((rd_T49 l0 x9_1).f0.f1), .string ((rd_T49 l0 x9_1).f0.f2), .int .i64 ((rd_T49 l0 x9_1).f1.f0), .int .i64 ((rd_T49 l0 x9_1).f1.f1), .int .i64 ((rd_T49 l0 x9_1).f1.f2), .bool ((rd_T49 l0 x9_1).f1.f3.f0), .int .i64 0, .string (⟨#[]⟩ : ByteArray), .bool false, .int .i64 0, .string (⟨#[]⟩ : ByteArray)]) ?_ 7 _ rfl; refine blk_put (cs := #[.bool ((rd_T49 l0 x9_1).f0.f0), .int .i64 ((rd_T49 l0 x9_1).f0.f1), .string ((rd_T49 l0 x9_1).f0.f2), .int .i64 ((rd_T49 l0 x9_1).f1.f0), .int .i64 ((rd_T49 l0 x9_1).f1.f1), .int .i64 ((rd_T49 l0 x9_1).f1.f2), .bool false, .int .i64 0, .string (⟨#[]⟩ : ByteArray), .bool false, .int .i64 0, .string (⟨#[]⟩ : ByteArray)]) ?_ 6 _ rfl; refine blk_put (cs := #[.bool ((rd_T49 l0 x9_1).f0.f0), .int .i64 ((rd_T49 l0 x9_1).f0.f1), .string ((rd_T49 l0 x9_1).f0.f2), .int .i64 ((rd_T49 l0 x9_1).f1.f0), .int .i64 ((rd_T49 l0 x9_1).f1.f1), .int .i64 0, .bool false, .int .i64 0, .string (⟨#[]⟩ : ByteArray), .bool false, .int .i64 0, .string (⟨#[]⟩ : ByteArray)]) ?_ 5 _ rfl; refine blk_put (cs := #[.bool ((rd_T49 l0 x9_1).f0.f0), .int .i64 ((rd_T49 l0 x9_1).f0.f1), .string ((rd_T49 l0 x9_1).f0.f2), .int .i64 ((rd_T49 l0 x9_1).f1.f0), .int .i64 0, .int .i64 0, .bool false, .int .i64 0, .string (⟨#[]⟩ : ByteArray), .bool false, .int .i64 0, .string (⟨#[]⟩ : ByteArray)]) ?_ 4 _ rfl; refine blk_put (cs := #[.bool ((rd_T49 l0 x9_1).f0.f0), .int .i64 ((rd_T49 l0 x9_1).f0.f1), .string ((rd_T49 l0 x9_1).f0.f2), .int .i64 0, .int .i64 0, .int .i64 0, .bool false, .int .i64 0, .string (⟨#[]⟩ : ByteArray), .bool false, .int .i64 0, .string (⟨#[]⟩ : ByteArray)]) ?_ 3 _ rfl; refine blk_put (cs := #[.bool ((rd_T49 l0 x9_1).f0.f0), .int .i64 ((rd_T49 l0 x9_1).f0.f1), .string (⟨#[]⟩ : ByteArray), .int .i64 0, .int .i64 0, .int .i64 0, .bool false, .int .i64 0, .string (⟨#[]⟩ : ByteArray), .bool false, .int .i64 0, .string (⟨#[]⟩ : ByteArray)]) ?_ 2 _ rfl; refine blk_put (cs := #[.bool ((rd_T49 l0 x9_1).f0.f0), .int .i64 0, .string (⟨#[]⟩ : ByteArray), .int .i64 0, .int .i64 0, .int .i64 0, .bool false, .int .i64 0, .string (⟨#[]⟩ : ByteArray), .bool false, .int .i64 0, .string (⟨#[]⟩ : ByteArray)]) ?_ 1 _ rfl; refine blk_put (cs := #[.bool false, .int .i64 0, .string (⟨#[]⟩ : ByteArray), .int .i64 0, .int .i64 0, .int .i64 0, .bool false, .int .i64 0, .string (⟨#[]⟩ : ByteArray), .bool false, .int .i64 0, .string (⟨#[]⟩ : ByteArray)]) ?_ 0 _ rfl; (with_reducible repeat (first | refine blk_drewN ?_ _ | refine blk_drew ?_ | refine blk_alloc ?_ _)); exact BK160.out⟩
           have n2_ : Aside0 (Below w.heap.size w ((((((((((((w23.setCell ⟨gb160, 0, none⟩ (.bool ((rd_T49 l0 x9_1).f0.f0))).setCell ⟨gb160, 1, none⟩ (.int .i64 ((rd_T49 l0 x9_1).f0.f1))).setCell ⟨gb160, 2, none⟩ (.string ((rd_T49 l0 x9_1).f0.f2))).setCell ⟨gb160, 3, none⟩ (.int .i64 ((rd_T49 l0 x9_1).f1.f0))).setCell ⟨gb160, 4, none⟩ (.int .i64 ((rd_T49 l0 x9_1).f1.f1))).setCell ⟨gb160, 5, none⟩ (.int .i64 ((rd_T49 l0 x9_1).f1.f2))).setCell ⟨gb160, 6, none⟩ (.bool ((rd_T49 l0 x9_1).f1.f3.f0))).setCell ⟨gb160, 7, none⟩ (.int .i64 ((rd_T49 l0 x9_1).f1.f3.f1))).setCell ⟨gb160, 8, none⟩ (.string ((rd_T49 l0 x9_1).f1.f3.f2))).setCell ⟨gb160, 9, none⟩ (.bool ((rd_T49 l0 x9_1).f1.f4.f0))).setCell ⟨gb160, 10, none⟩ (.int .i64 ((rd_T49 l0 x9_1).f1.f4.f1))).setCell ⟨gb160, 11, none⟩ (.string ((rd_T49 l0 x9_1).f1.f4.f2)))) := ⟨by repeat (first | (with_reducible first | exact HB.out | apply below_alloc | apply pw_below_drewN | apply below_drew1 | refine below_set ?_ GE160.out) | exact HB.out)⟩
           (try clear HO_3)
           (try clear BK160)
           (try clear HB)
           generalize ((((((((((((w23.setCell ⟨gb160, 0, none⟩ (.bool ((rd_T49 l0 x9_1).f0.f0))).setCell ⟨gb160, 1, none⟩ (.int .i64 ((rd_T49 l0 x9_1).f0.f1))).setCell ⟨gb160, 2, none⟩ (.string ((rd_T49 l0 x9_1).f0.f2))).setCell ⟨gb160, 3, none⟩ (.int .i64 ((rd_T49 l0 x9_1).f1.f0))).setCell ⟨gb160, 4, none⟩ (.int .i64 ((rd_T49 l0 x9_1).f1.f1))).setCell ⟨gb160, 5, none⟩ (.int .i64 ((rd_T49 l0 x9_1).f1.f2))).setCell ⟨gb160, 6, none⟩ (.bool ((rd_T49 l0 x9_1).f1.f3.f0))).setCell ⟨gb160, 7, none⟩ (.int .i64 ((rd_T49 l0 x9_1).f1.f3.f1))).setCell ⟨gb160, 8, none⟩ (.string ((rd_T49 l0 x9_1).f1.f3.f2))).setCell ⟨gb160, 9, none⟩ (.bool ((rd_T49 l0 x9_1).f1.f4.f0))).setCell ⟨gb160, 10, none⟩ (.int .i64 ((rd_T49 l0 x9_1).f1.f4.f1))).setCell ⟨gb160, 11, none⟩ (.string ((rd_T49 l0 x9_1).f1.f4.f2))) = w26 at n0_ n1_ n2_ ⊢
           have HO_3 := n0_
           have BK160 := n1_
           have HB := n2_
           clear n0_ n1_ n2_
           have n0_ := Aside0.mk (Kd.R_drew HO_3.out)
           have n1_ := Aside0.mk (blk_drew BK160.out)
           have n2_ := Aside0.mk (below_drew1 HB.out)
           clear HO_3
           clear BK160
           clear HB
           have HO_3 := n0_
           have BK160 := n1_
           have HB := n2_
           clear n0_ n1_ n2_
           have p161 : 0 ≤ ((ji6) : Int) := of_decide_eq_true (by with_reducible assumption)
           have q161 : (ji6) < (x3_1.length : Int) := of_decide_eq_true (by with_reducible assumption)
           obtain ⟨ad161, e161, hx161_0, hx161_1, hx161_2, hx161_3, hx161_4, hx161_5, hx161_6, hx161_7, hx161_8, hx161_9, hx161_10, hx161_11⟩ := at_T49 (Kd.R_reads' HO_3.out).2.2 (ji6) p161 q161
           cases e161
           replace p161 := eq_true p161
           replace q161 := eq_true q161
           refine start_ (n := 11) (S := fun w' => w'.cell? ⟨gb160, 0, none⟩ = some (.bool ((rd_T49 l0 x9_1).f0.f0)) ∧ w'.cell? ⟨gb160, 1, none⟩ = some (.int .i64 ((rd_T49 l0 x9_1).f0.f1)) ∧ w'.cell? ⟨gb160, 2, none⟩ = some (.string ((rd_T49 l0 x9_1).f0.f2)) ∧ w'.cell? ⟨gb160, 3, none⟩ = some (.int .i64 ((rd_T49 l0 x9_1).f1.f0)) ∧ w'.cell? ⟨gb160, 4, none⟩ = some (.int .i64 ((rd_T49 l0 x9_1).f1.f1)) ∧ w'.cell? ⟨gb160, 5, none⟩ = some (.int .i64 ((rd_T49 l0 x9_1).f1.f2)) ∧ w'.cell? ⟨gb160, 6, none⟩ = some (.bool ((rd_T49 l0 x9_1).f1.f3.f0)) ∧ w'.cell? ⟨gb160, 7, none⟩ = some (.int .i64 ((rd_T49 l0 x9_1).f1.f3.f1)) ∧ w'.cell? ⟨gb160, 8, none⟩ = some (.string ((rd_T49 l0 x9_1).f1.f3.f2)) ∧ w'.cell? ⟨gb160, 9, none⟩ = some (.bool ((rd_T49 l0 x9_1).f1.f4.f0)) ∧ w'.cell? ⟨gb160, 10, none⟩ = some (.int .i64 ((rd_T49 l0 x9_1).f1.f4.f1)) ∧ w'.cell? ⟨gb160, 11, none⟩ = some (.string ((rd_T49 l0 x9_1).f1.f4.f2)) ∧ w'.cell? (ad161.add (((ji6)).toNat * 12)) = some (.bool ((rd_T49 x3_1 (ji6)).f0.f0)) ∧ w'.cell? ⟨(ad161.add (((ji6)).toNat * 12)).block, (ad161.add (((ji6)).toNat * 12)).off + 1, none⟩ = some (.int .i64 ((rd_T49 x3_1 (ji6)).f0.f1)) ∧ w'.cell? ⟨(ad161.add (((ji6)).toNat * 12)).block, (ad161.add (((ji6)).toNat * 12)).off + 2, none⟩ = some (.string ((rd_T49 x3_1 (ji6)).f0.f2)) ∧ w'.cell? ⟨(ad161.add (((ji6)).toNat * 12)).block, (ad161.add (((ji6)).toNat * 12)).off + 3, none⟩ = some (.int .i64 ((rd_T49 x3_1 (ji6)).f1.f0)) ∧ w'.cell? ⟨(ad161.add (((ji6)).toNat * 12)).block, (ad161.add (((ji6)).toNat * 12)).off + 4, none⟩ = some (.int .i64 ((rd_T49 x3_1 (ji6)).f1.f1)) ∧ w'.cell? ⟨(ad161.add (((ji6)).toNat * 12)).block, (ad161.add (((ji6)).toNat * 12)).off + 5, none⟩ = some (.int .i64 ((rd_T49 x3_1 (ji6)).f1.f2)) ∧ w'.cell? ⟨(ad161.add (((ji6)).toNat * 12)).block, (ad161.add (((ji6)).toNat * 12)).off + 6, none⟩ = some (.bool ((rd_T49 x3_1 (ji6)).f1.f3.f0)) ∧ w'.cell? ⟨(ad161.add (((ji6)).toNat * 12)).block, (ad161.add (((ji6)).toNat * 12)).off + 7, none⟩ = some (.int .i64 ((rd_T49 x3_1 (ji6)).f1.f3.f1)) ∧ w'.cell? ⟨(ad161.add (((ji6)).toNat * 12)).block, (ad161.add (((ji6)).toNat * 12)).off + 8, none⟩ = some (.string ((rd_T49 x3_1 (ji6)).f1.f3.f2)) ∧ w'.cell? ⟨(ad161.add (((ji6)).toNat * 12)).block, (ad161.add (((ji6)).toNat * 12)).off + 9, none⟩ = some (.bool ((rd_T49 x3_1 (ji6)).f1.f4.f0)) ∧ w'.cell? ⟨(ad161.add (((ji6)).toNat * 12)).block, (ad161.add (((ji6)).toNat * 12)).off + 10, none⟩ = some (.int .i64 ((rd_T49 x3_1 (ji6)).f1.f4.f1)) ∧ w'.cell? ⟨(ad161.add (((ji6)).toNat * 12)).block, (ad161.add (((ji6)).toNat * 12)).off + 11, none⟩ = some (.string ((rd_T49 x3_1 (ji6)).f1.f4.f2))) (ds := []) #[false, false, false, false, false, false, false, false, false, false, false] (by kernel_rfl) rfl rfl ⟨(blk_cell BK160.out 0).trans rfl, (blk_cell BK160.out 1).trans rfl, (blk_cell BK160.out 2).trans rfl, (blk_cell BK160.out 3).trans rfl, (blk_cell BK160.out 4).trans rfl, (blk_cell BK160.out 5).trans rfl, (blk_cell BK160.out 6).trans rfl, (blk_cell BK160.out 7).trans rfl, (blk_cell BK160.out 8).trans rfl, (blk_cell BK160.out 9).trans rfl, (blk_cell BK160.out 10).trans rfl, (blk_cell BK160.out 11).trans rfl, hx161_0, hx161_1, hx161_2, hx161_3, hx161_4, hx161_5, hx161_6, hx161_7, hx161_8, hx161_9, hx161_10, hx161_11⟩ (fun hHeld => ?_); refine with_tabW groups_gather.tab6 groups_gather.bits6 (fun HT_ HW_ => ?_)
           generalize w26.drew = w27 at HO_3 BK160 HB hx161_0 hx161_1 hx161_10 hx161_11 hx161_2 hx161_3 hx161_4 hx161_5 hx161_6 hx161_7 hx161_8 hx161_9 hHeld ⊢
           refine pure_ (i := 0) (N := some 16) (v := ?_) (a' := ?_) #[true, false, false, false, false, false, false, false, false, false, false] rfl rfl (any_of HT_.out (by kernel_rfl)) (fun _ _ _ h => h) (Or.inl ⟨by rfl, ?_⟩) ?_ ?_
           rotate_left
           ·intro w'
            go_simp
            with_reducible rfl
           rotate_left
           ·simp only [Act.put, List.setIfInBounds_toArray, List.set_cons_zero, List.set_cons_succ, i64_w, i32_w]
            rfl
           refine pure_ (i := 1) (N := some 17) (v := ?_) (a' := ?_) #[true, true, false, false, false, false, false, false, false, false, false] rfl rfl (any_of HT_.out (by kernel_rfl)) (fun _ _ _ h => h) (Or.inl ⟨by rfl, ?_⟩) ?_ ?_
           rotate_left
           ·intro w'
            go_simp
            with_reducible rfl
           rotate_left
           ·simp only [Act.put, List.setIfInBounds_toArray, List.set_cons_zero, List.set_cons_succ, i64_w, i32_w]
            rfl
           refine pure_ (i := 2) (N := some 18) (v := ?_) (a' := ?_) #[true, true, true, false, false, false, false, false, false, false, false] rfl rfl (any_of HT_.out (by kernel_rfl)) (fun _ _ _ h => h) (Or.inl ⟨by rfl, ?_⟩) ?_ ?_
           rotate_left
           ·intro w'
            go_simp
            with_reducible rfl
           rotate_left
           ·simp only [Act.put, List.setIfInBounds_toArray, List.set_cons_zero, List.set_cons_succ, i64_w, i32_w]
            rfl
           refine pure_ (i := 3) (N := some 19) (v := ?_) (a' := ?_) #[true, true, true, true, false, false, false, false, false, false, false] rfl rfl (any_of HT_.out (by kernel_rfl)) (fun _ _ _ h => h) (Or.inl ⟨by rfl, ?_⟩) ?_ ?_
           rotate_left
           ·intro w'
            go_simp
            with_reducible rfl
           rotate_left
           ·simp only [Act.put, List.setIfInBounds_toArray, List.set_cons_zero, List.set_cons_succ, i64_w, i32_w]
            rfl
           refine pure_ (i := 4) (N := some 20) (v := ?_) (a' := ?_) #[true, true, true, true, true, false, false, false, false, false, false] rfl rfl (any_of HT_.out (by kernel_rfl)) (fun _ _ _ h => h) (Or.inl ⟨by rfl, ?_⟩) ?_ ?_
           rotate_left
           ·intro w'
            go_simp
            with_reducible rfl
           rotate_left
           ·simp only [Act.put, List.setIfInBounds_toArray, List.set_cons_zero, List.set_cons_succ, i64_w, i32_w]
            rfl
           refine pure_ (i := 5) (N := some 21) (v := ?_) (a' := ?_) #[true, true, true, true, true, true, false, false, false, false, false] rfl rfl (any_of HT_.out (by kernel_rfl)) (fun _ _ _ h => h) (Or.inl ⟨by rfl, ?_⟩) ?_ ?_
           rotate_left
           ·intro w'
            go_simp
            with_reducible rfl
           rotate_left
           ·simp only [Act.put, List.setIfInBounds_toArray, List.set_cons_zero, List.set_cons_succ, i64_w, i32_w]
            rfl
           refine take_ (i := 6) (N := some 22) (v := ?_) (a' := ?_) #[true, true, true, true, true, true, true, false, false, false, false] rfl rfl (take_ofW HT_.out HW_.out (by kernel_rfl)) (fun _ _ _ h => h) (Or.inl ⟨by rfl, ?_⟩) hHeld ?_ ?_
           rotate_left
           ·rintro w' ⟨s0, s1, s2, s3, s4, s5, s6, s7, s8, s9, s10, s11, s12, s13, s14, s15, s16, s17, s18, s19, s20, s21, s22, s23⟩
            go_simp
            with_reducible rfl
           rotate_left
           ·simp only [Act.put, List.setIfInBounds_toArray, List.set_cons_zero, List.set_cons_succ, i64_w, i32_w]
            rfl
           refine take_ (i := 7) (N := some 23) (v := ?_) (a' := ?_) #[true, true, true, true, true, true, true, true, false, false, false] rfl rfl (take_ofW HT_.out HW_.out (by kernel_rfl)) (fun _ _ _ h => h) (Or.inl ⟨by rfl, ?_⟩) hHeld ?_ ?_
           rotate_left
           ·rintro w' ⟨s0, s1, s2, s3, s4, s5, s6, s7, s8, s9, s10, s11, s12, s13, s14, s15, s16, s17, s18, s19, s20, s21, s22, s23⟩
            go_simp
            with_reducible rfl
           rotate_left
           ·simp only [Act.put, List.setIfInBounds_toArray, List.set_cons_zero, List.set_cons_succ, i64_w, i32_w]
            rfl
           refine one_ (i := 8) (N := some 24) #[true, true, true, true, true, true, true, true, true, false, false] rfl rfl (one_of HT_.out (by kernel_rfl)) (by decide) (fun K hK => ?_)
           refine goes_ Try.func56 (by kernel_rfl) rfl #[.agg #[.bool ((rd_T49 x3_1 (ji6)).f0.f0), .int .i64 ((rd_T49 x3_1 (ji6)).f0.f1), .string ((rd_T49 x3_1 (ji6)).f0.f2), .int .i64 ((rd_T49 x3_1 (ji6)).f1.f0), .int .i64 ((rd_T49 x3_1 (ji6)).f1.f1), .int .i64 ((rd_T49 x3_1 (ji6)).f1.f2), .bool ((rd_T49 x3_1 (ji6)).f1.f3.f0), .int .i64 ((rd_T49 x3_1 (ji6)).f1.f3.f1), .string ((rd_T49 x3_1 (ji6)).f1.f3.f2), .bool ((rd_T49 x3_1 (ji6)).f1.f4.f0), .int .i64 ((rd_T49 x3_1 (ji6)).f1.f4.f1), .string ((rd_T49 x3_1 (ji6)).f1.f4.f2)], .agg #[.bool ((rd_T49 l0 x9_1).f0.f0), .int .i64 ((rd_T49 l0 x9_1).f0.f1), .string ((rd_T49 l0 x9_1).f0.f2), .int .i64 ((rd_T49 l0 x9_1).f1.f0), .int .i64 ((rd_T49 l0 x9_1).f1.f1), .int .i64 ((rd_T49 l0 x9_1).f1.f2), .bool ((rd_T49 l0 x9_1).f1.f3.f0), .int .i64 ((rd_T49 l0 x9_1).f1.f3.f1), .string ((rd_T49 l0 x9_1).f1.f3.f2), .bool ((rd_T49 l0 x9_1).f1.f4.f0), .int .i64 ((rd_T49 l0 x9_1).f1.f4.f1), .string ((rd_T49 l0 x9_1).f1.f4.f2)]] (by rfl) rfl rfl (by (try simp only [List.map_toArray, List.map_cons, List.map_nil]); first | done | (simp only [hji6]; rfl) | rfl | (simp only [List.length_drop, List.length_take]; rfl)) ?_
           with_reducible refine (groups_byKey.calls ((rd_T49 x3_1 (ji6)).f0.f0) ((rd_T49 x3_1 (ji6)).f0.f1) ((rd_T49 x3_1 (ji6)).f0.f2) ((rd_T49 x3_1 (ji6)).f1.f0) ((rd_T49 x3_1 (ji6)).f1.f1) ((rd_T49 x3_1 (ji6)).f1.f2) ((rd_T49 x3_1 (ji6)).f1.f3.f0) ((rd_T49 x3_1 (ji6)).f1.f3.f1) ((rd_T49 x3_1 (ji6)).f1.f3.f2) ((rd_T49 x3_1 (ji6)).f1.f4.f0) ((rd_T49 x3_1 (ji6)).f1.f4.f1) ((rd_T49 x3_1 (ji6)).f1.f4.f2) ((rd_T49 l0 x9_1).f0.f0) ((rd_T49 l0 x9_1).f0.f1) ((rd_T49 l0 x9_1).f0.f2) ((rd_T49 l0 x9_1).f1.f0) ((rd_T49 l0 x9_1).f1.f1) ((rd_T49 l0 x9_1).f1.f2) ((rd_T49 l0 x9_1).f1.f3.f0) ((rd_T49 l0 x9_1).f1.f3.f1) ((rd_T49 l0 x9_1).f1.f3.f2) ((rd_T49 l0 x9_1).f1.f4.f0) ((rd_T49 l0 x9_1).f1.f4.f1) ((rd_T49 l0 x9_1).f1.f4.f2) t162 _ A9.out).mono ?_
           rintro e w28 ⟨rfl, hb⟩
           have HS12_ := (hb.cell (World.block_lt_of_cell? _ _ (hHeld.2.2.2.2.2.2.2.2.2.2.2.2.1))).trans (hHeld.2.2.2.2.2.2.2.2.2.2.2.2.1)
           have HS13_ := (hb.cell (World.block_lt_of_cell? _ _ (hHeld.2.2.2.2.2.2.2.2.2.2.2.2.2.1))).trans (hHeld.2.2.2.2.2.2.2.2.2.2.2.2.2.1)
           have HS14_ := (hb.cell (World.block_lt_of_cell? _ _ (hHeld.2.2.2.2.2.2.2.2.2.2.2.2.2.2.1))).trans (hHeld.2.2.2.2.2.2.2.2.2.2.2.2.2.2.1)
           have HS15_ := (hb.cell (World.block_lt_of_cell? _ _ (hHeld.2.2.2.2.2.2.2.2.2.2.2.2.2.2.2.1))).trans (hHeld.2.2.2.2.2.2.2.2.2.2.2.2.2.2.2.1)
           have HS16_ := (hb.cell (World.block_lt_of_cell? _ _ (hHeld.2.2.2.2.2.2.2.2.2.2.2.2.2.2.2.2.1))).trans (hHeld.2.2.2.2.2.2.2.2.2.2.2.2.2.2.2.2.1)
           have HS17_ := (hb.cell (World.block_lt_of_cell? _ _ (hHeld.2.2.2.2.2.2.2.2.2.2.2.2.2.2.2.2.2.1))).trans (hHeld.2.2.2.2.2.2.2.2.2.2.2.2.2.2.2.2.2.1)
           have HS18_ := (hb.cell (World.block_lt_of_cell? _ _ (hHeld.2.2.2.2.2.2.2.2.2.2.2.2.2.2.2.2.2.2.1))).trans (hHeld.2.2.2.2.2.2.2.2.2.2.2.2.2.2.2.2.2.2.1)
           have HS19_ := (hb.cell (World.block_lt_of_cell? _ _ (hHeld.2.2.2.2.2.2.2.2.2.2.2.2.2.2.2.2.2.2.2.1))).trans (hHeld.2.2.2.2.2.2.2.2.2.2.2.2.2.2.2.2.2.2.2.1)
           have HS20_ := (hb.cell (World.block_lt_of_cell? _ _ (hHeld.2.2.2.2.2.2.2.2.2.2.2.2.2.2.2.2.2.2.2.2.1))).trans (hHeld.2.2.2.2.2.2.2.2.2.2.2.2.2.2.2.2.2.2.2.2.1)
           have HS21_ := (hb.cell (World.block_lt_of_cell? _ _ (hHeld.2.2.2.2.2.2.2.2.2.2.2.2.2.2.2.2.2.2.2.2.2.1))).trans (hHeld.2.2.2.2.2.2.2.2.2.2.2.2.2.2.2.2.2.2.2.2.2.1)
           have HS22_ := (hb.cell (World.block_lt_of_cell? _ _ (hHeld.2.2.2.2.2.2.2.2.2.2.2.2.2.2.2.2.2.2.2.2.2.2.1))).trans (hHeld.2.2.2.2.2.2.2.2.2.2.2.2.2.2.2.2.2.2.2.2.2.2.1)
           have HS23_ := (hb.cell (World.block_lt_of_cell? _ _ (hHeld.2.2.2.2.2.2.2.2.2.2.2.2.2.2.2.2.2.2.2.2.2.2.2))).trans (hHeld.2.2.2.2.2.2.2.2.2.2.2.2.2.2.2.2.2.2.2.2.2.2.2)
           refine ⟨_, rfl, ?_⟩
           have n0_ := Aside0.mk (Kd.R_below (by (with_reducible repeat (first | apply Kd.R_alloc | apply Kd.R_drewN | apply Kd.R_drew)); exact HO_3.out) hb)
           have n1_ := Aside0.mk (blk_below (g := gb160) (o := .cells #[.bool ((rd_T49 l0 x9_1).f0.f0), .int .i64 ((rd_T49 l0 x9_1).f0.f1), .string ((rd_T49 l0 x9_1).f0.f2), .int .i64 ((rd_T49 l0 x9_1).f1.f0), .int .i64 ((rd_T49 l0 x9_1).f1.f1), .int .i64 ((rd_T49 l0 x9_1).f1.f2), .bool ((rd_T49 l0 x9_1).f1.f3.f0), .int .i64 ((rd_T49 l0 x9_1).f1.f3.f1), .string ((rd_T49 l0 x9_1).f1.f3.f2), .bool ((rd_T49 l0 x9_1).f1.f4.f0), .int .i64 ((rd_T49 l0 x9_1).f1.f4.f1), .string ((rd_T49 l0 x9_1).f1.f4.f2)] 49 (0, 0)) (by (with_reducible repeat (first | refine blk_drewN ?_ _ | refine blk_drew ?_ | refine blk_alloc ?_ _)); exact BK160.out) hb)
           have n2_ := Aside0.mk (below_step (by with_reducible repeat first | exact HB.out | apply below_alloc | apply pw_below_drewN | apply below_drew1 | refine below_set ?_ GE160.out) hb)
           clear HO_3
           clear BK160
           clear HB
           have HO_3 := n0_
           have BK160 := n1_
           have HB := n2_
           clear n0_ n1_ n2_
           (try clear hb)
           (try clear hb2)
           (try clear hk)
           (try clear hi)
           refine hK.out _ _ ⟨(blk_cell BK160.out 0).trans rfl, (blk_cell BK160.out 1).trans rfl, (blk_cell BK160.out 2).trans rfl, (blk_cell BK160.out 3).trans rfl, (blk_cell BK160.out 4).trans rfl, (blk_cell BK160.out 5).trans rfl, (blk_cell BK160.out 6).trans rfl, (blk_cell BK160.out 7).trans rfl, (blk_cell BK160.out 8).trans rfl, (blk_cell BK160.out 9).trans rfl, (blk_cell BK160.out 10).trans rfl, (blk_cell BK160.out 11).trans rfl, HS12_, HS13_, HS14_, HS15_, HS16_, HS17_, HS18_, HS19_, HS20_, HS21_, HS22_, HS23_⟩ (fun hHeld => ?_)
           clear hK K
           refine norm_ (a' := ?_) ?_ ?_
           rotate_left
           ·show Act.put _ (some 24) _ = _
            simp only [Act.put, List.setIfInBounds_toArray, List.set_cons_zero, List.set_cons_succ, i64_w, i32_w]
            rfl
           refine pure_ (i := 9) (N := some 25) (v := ?_) (a' := ?_) #[true, true, true, true, true, true, true, true, true, true, false] rfl rfl (any_of HT_.out (by kernel_rfl)) (fun _ _ _ h => h) (Or.inl ⟨by rfl, ?_⟩) ?_ ?_
           rotate_left
           ·intro w'
            go_simp
            with_reducible rfl
           rotate_left
           ·simp only [Act.put, List.setIfInBounds_toArray, List.set_cons_zero, List.set_cons_succ, i64_w, i32_w]
            rfl
           refine pure_ (i := 10) (N := some 26) (v := ?_) (a' := ?_) #[true, true, true, true, true, true, true, true, true, true, true] rfl rfl (any_of HT_.out (by kernel_rfl)) (fun _ _ _ h => h) (Or.inl ⟨by rfl, ?_⟩) ?_ ?_
           rotate_left
           ·intro w'
            go_simp
            with_reducible rfl
           rotate_left
           ·simp only [Act.put, List.setIfInBounds_toArray, List.set_cons_zero, List.set_cons_succ, i64_w, i32_w]
            rfl
           refine done_ (done_of HT_.out (by kernel_rfl)) ?_
           obtain ⟨hcz29_0, hcz29_1, hcz29_2, hcz29_3, hcz29_4, hcz29_5, hcz29_6, hcz29_7, hcz29_8, hcz29_9, hcz29_10, hcz29_11⟩ := bc12 BK160.out
           obtain ⟨hfz29_0, hfz29_1, hfz29_2, hfz29_3, hfz29_4, hfz29_5, hfz29_6, hfz29_7, hfz29_8, hfz29_9, hfz29_10, hfz29_11⟩ := bf12 BK160.out
           try go_wp2_with (first | ((with_reducible refine gate_builtin (b := .append) (xs := #[.tmp 39, .tmp 41]) rfl ?_); at_builtin; refine Kd.R_append k49 (w0 := w) w.heap.size rfl (.tmp 39) (.tmp 41) 44 49 (.agg #[(.bool false), (.int .i64 0), (.string ⟨#[]⟩), (.int .i64 0), (.int .i64 0), (.int .i64 0), (.bool false), (.int .i64 0), (.string ⟨#[]⟩), (.bool false), (.int .i64 0), (.string ⟨#[]⟩)]) 120 rfl Try.underlying44 info49 rfl (by decide) (by omega) (.slice (some ad161) x3_1.length co25) x3_1 (⟨(⟨(rd_T49 l0 x9_1).f0.f0, (rd_T49 l0 x9_1).f0.f1, (rd_T49 l0 x9_1).f0.f2⟩ : S37), (⟨(rd_T49 l0 x9_1).f1.f0, (rd_T49 l0 x9_1).f1.f1, (rd_T49 l0 x9_1).f1.f2, (⟨(rd_T49 l0 x9_1).f1.f3.f0, (rd_T49 l0 x9_1).f1.f3.f1, (rd_T49 l0 x9_1).f1.f3.f2⟩ : S37), (⟨(rd_T49 l0 x9_1).f1.f4.f0, (rd_T49 l0 x9_1).f1.f4.f1, (rd_T49 l0 x9_1).f1.f4.f2⟩ : S37)⟩ : S47)⟩ : S49) [.bool ((rd_T49 l0 x9_1).f0.f0), .int .i64 ((rd_T49 l0 x9_1).f0.f1), .string ((rd_T49 l0 x9_1).f0.f2), .int .i64 ((rd_T49 l0 x9_1).f1.f0), .int .i64 ((rd_T49 l0 x9_1).f1.f1), .int .i64 ((rd_T49 l0 x9_1).f1.f2), .bool ((rd_T49 l0 x9_1).f1.f3.f0), .int .i64 ((rd_T49 l0 x9_1).f1.f3.f1), .string ((rd_T49 l0 x9_1).f1.f3.f2), .bool ((rd_T49 l0 x9_1).f1.f4.f0), .int .i64 ((rd_T49 l0 x9_1).f1.f4.f1), .string ((rd_T49 l0 x9_1).f1.f4.f2)] (fun k_ => k_ ≠ gb160) (fun _ => False) rfl rfl ?aP (fun _ hk => hk.elim) ?aF ?aO ?aB ?aS ?aL ?_; (case aP => exact k49_mkM _ _ _ (⟨(⟨(rd_T49 l0 x9_1).f0.f0, (rd_T49 l0 x9_1).f0.f1, (rd_T49 l0 x9_1).f0.f2⟩ : S37), (⟨(rd_T49 l0 x9_1).f1.f0, (rd_T49 l0 x9_1).f1.f1, (rd_T49 l0 x9_1).f1.f2, (⟨(rd_T49 l0 x9_1).f1.f3.f0, (rd_T49 l0 x9_1).f1.f3.f1, (rd_T49 l0 x9_1).f1.f3.f2⟩ : S37), (⟨(rd_T49 l0 x9_1).f1.f4.f0, (rd_T49 l0 x9_1).f1.f4.f1, (rd_T49 l0 x9_1).f1.f4.f2⟩ : S37)⟩ : S47)⟩ : S49)); (case aB => exact (by with_reducible repeat first | exact HB.out | apply below_alloc | apply pw_below_drewN | apply below_drew1 | refine below_set ?_ GE160.out)); (case aF => exact (fun k_ hk => Kd.freshB (g := gb160) (o := .cells #[.bool ((rd_T49 l0 x9_1).f0.f0), .int .i64 ((rd_T49 l0 x9_1).f0.f1), .string ((rd_T49 l0 x9_1).f0.f2), .int .i64 ((rd_T49 l0 x9_1).f1.f0), .int .i64 ((rd_T49 l0 x9_1).f1.f1), .int .i64 ((rd_T49 l0 x9_1).f1.f2), .bool ((rd_T49 l0 x9_1).f1.f3.f0), .int .i64 ((rd_T49 l0 x9_1).f1.f3.f1), .string ((rd_T49 l0 x9_1).f1.f3.f2), .bool ((rd_T49 l0 x9_1).f1.f4.f0), .int .i64 ((rd_T49 l0 x9_1).f1.f4.f1), .string ((rd_T49 l0 x9_1).f1.f4.f2)] 49 (0, 0)) (by (with_reducible repeat (first | refine blk_drewN ?_ _ | refine blk_drew ?_ | refine blk_alloc ?_ _)); exact BK160.out) k_ hk)); (case aO => exact (by (with_reducible repeat (first | apply Kd.R_alloc | apply Kd.R_drewN | apply Kd.R_drew)); exact HO_3.out)); (case aS => exact (below_size (by with_reducible repeat first | exact HB.out | apply below_alloc | apply pw_below_drewN | apply below_drew1 | refine below_set ?_ GE160.out))); (case aL => have := LMc22.out; omega); intro v175 w30 ho hb hg hat; rw [← Ny174.out] at ho; have n0_ := Aside0.mk (blk_grown (g := gb160) (o := .cells #[.bool ((rd_T49 l0 x9_1).f0.f0), .int .i64 ((rd_T49 l0 x9_1).f0.f1), .string ((rd_T49 l0 x9_1).f0.f2), .int .i64 ((rd_T49 l0 x9_1).f1.f0), .int .i64 ((rd_T49 l0 x9_1).f1.f1), .int .i64 ((rd_T49 l0 x9_1).f1.f2), .bool ((rd_T49 l0 x9_1).f1.f3.f0), .int .i64 ((rd_T49 l0 x9_1).f1.f3.f1), .string ((rd_T49 l0 x9_1).f1.f3.f2), .bool ((rd_T49 l0 x9_1).f1.f4.f0), .int .i64 ((rd_T49 l0 x9_1).f1.f4.f1), .string ((rd_T49 l0 x9_1).f1.f4.f2)] 49 (0, 0)) (by (with_reducible repeat (first | refine blk_drewN ?_ _ | refine blk_drew ?_ | refine blk_alloc ?_ _)); exact BK160.out) hg (Kd.R_away HO_3.out (fun _ hk => hk))); have n1_ := Aside0.mk (hb); have n2_ := Aside0.mk (ho); clear BK160; clear HB; clear HO_3; have BK160 := n0_; have HB := n1_; have HO176 := n2_; clear n0_ n1_ n2_; clear ho hb hg hat))
           go_roundg k1
           case measure => have := HK1.out; omega
           case rel => exact ⟨(y174), (wrap64 (x9_1 + 1)), (by first | rfl | (simp; done) | (simp [*]; done)), H', ⟨by have := HK1.out; omega⟩, ⟨by (with_reducible repeat (first | apply Kd.R_alloc | apply Kd.R_drewN | apply Kd.R_drew)); exact Kd.R_mono HO176.out (fun _ hk => trivial)⟩, ⟨by repeat (first | (with_reducible first | exact HB.out | apply below_alloc | apply pw_below_drewN | apply below_drew1 | refine below_set ?_ GE160.out) | exact HB.out)⟩⟩
          ·rw [if_neg c22] at H
           exact absurd H (by simp)
        ·rw [if_neg c8] at H
         exact absurd H (by simp)
       ·rw [if_neg c7] at H
        exact absurd H (by simp)
      ·rw [if_neg c5] at H
       have c5b0 : decide (0 ≤ (wrap64 ((x3_1.length : Int) - 1))) = false := decide_eq_false c5
       clear c5
       by_cases c31 : x3_1.length < 1172812402961
       ·rw [if_pos c31] at H
        have LMc31 := Aside0.mk c31
        clear c31
        obtain ⟨y177, hy177⟩ : ∃ y_ : List (S49), y_ = (x3_1 ++ [(⟨(⟨(rd_T49 l0 x9_1).f0.f0, (rd_T49 l0 x9_1).f0.f1, (rd_T49 l0 x9_1).f0.f2⟩ : S37), (⟨(rd_T49 l0 x9_1).f1.f0, (rd_T49 l0 x9_1).f1.f1, (rd_T49 l0 x9_1).f1.f2, (⟨(rd_T49 l0 x9_1).f1.f3.f0, (rd_T49 l0 x9_1).f1.f3.f1, (rd_T49 l0 x9_1).f1.f3.f2⟩ : S37), (⟨(rd_T49 l0 x9_1).f1.f4.f0, (rd_T49 l0 x9_1).f1.f4.f1, (rd_T49 l0 x9_1).f1.f4.f2⟩ : S37)⟩ : S47)⟩ : S49)]) := ⟨_, rfl⟩
        replace H : (groups_gather.l0 k1 y177 l0 (l0.length : Int) (wrap64 (x9_1 + 1))) = some r := by first | (rw [hy177]; with_reducible exact H) | (have H2_ := (Option.bind_some _ _).symm.trans H; rw [hy177]; with_reducible exact H2_) | (have H2_ := (Option.bind_some _ _).symm.trans H; with_reducible exact H2_) | with_reducible exact H | (rw [hy177]; exact H) | exact H
        have Ny177 := Aside0.mk hy177
        clear hy177
        have H' := Aside0.mk H
        clear H
        have p159 : 0 ≤ (x9_1 : Int) := of_decide_eq_true (by with_reducible assumption)
        have q159 : x9_1 < (l0.length : Int) := of_decide_eq_true (by with_reducible assumption)
        obtain ⟨ad159, e159, hx159_0, hx159_1, hx159_2, hx159_3, hx159_4, hx159_5, hx159_6, hx159_7, hx159_8, hx159_9, hx159_10, hx159_11⟩ := at_T49 HR0.out x9_1 p159 q159
        cases e159
        replace hx159_0 := pw_cell_below HB.out hx159_0
        replace hx159_1 := pw_cell_below HB.out hx159_1
        replace hx159_2 := pw_cell_below HB.out hx159_2
        replace hx159_3 := pw_cell_below HB.out hx159_3
        replace hx159_4 := pw_cell_below HB.out hx159_4
        replace hx159_5 := pw_cell_below HB.out hx159_5
        replace hx159_6 := pw_cell_below HB.out hx159_6
        replace hx159_7 := pw_cell_below HB.out hx159_7
        replace hx159_8 := pw_cell_below HB.out hx159_8
        replace hx159_9 := pw_cell_below HB.out hx159_9
        replace hx159_10 := pw_cell_below HB.out hx159_10
        replace hx159_11 := pw_cell_below HB.out hx159_11
        replace p159 := eq_true p159
        replace q159 := eq_true q159
        try go_wp2_with (first | ((with_reducible refine gate_dst (N := 5) rfl ?_); refine box_event ?hg (N := 5) ?hd (cs := #[.bool false, .int .i64 0, .string (⟨#[]⟩ : ByteArray), .int .i64 0, .int .i64 0, .int .i64 0, .bool false, .int .i64 0, .string (⟨#[]⟩ : ByteArray), .bool false, .int .i64 0, .string (⟨#[]⟩ : ByteArray)]) (t := 49) ?hr ?_; (case hd => rfl); (case hg => rfl); (case hr => first | (go_simp; done) | (go_simp; rfl)); intro gb160 hg w32 hbox hb; have n0_ := Aside0.mk (Kd.R_below (Kd.R_elderB (by (with_reducible repeat (first | apply Kd.R_alloc | apply Kd.R_drewN | apply Kd.R_drew)); exact HO_3.out) gb160 (Nat.le_of_eq hg.symm)) hb); have n1_ := Aside0.mk (below_step (by with_reducible repeat first | exact HB.out | apply below_alloc | apply pw_below_drewN | apply below_drew1) hb); have n2_ := Aside0.mk (hbox); have n3_ := Aside0.mk ((by rw [hg]; exact (below_size (by with_reducible repeat first | exact HB.out | apply below_alloc | apply pw_below_drewN | apply below_drew1)) : w.heap.size ≤ gb160)); have n4_ := Aside0.mk ((by rw [hg]; exact (below_size (by with_reducible repeat first | exact HB.out | apply below_alloc | apply pw_below_drewN | apply below_drew1)) : w.heap.size ≤ gb160)); clear HO_3; clear HB; have HO_3 := n0_; have HB := n1_; have BK160 := n2_; have GW160 := n3_; have GE160 := n4_; clear n0_ n1_ n2_ n3_ n4_; clear hb hbox hg; obtain ⟨hcz33_0, hcz33_1, hcz33_2, hcz33_3, hcz33_4, hcz33_5, hcz33_6, hcz33_7, hcz33_8, hcz33_9, hcz33_10, hcz33_11⟩ := bc12 BK160.out; obtain ⟨hfz33_0, hfz33_1, hfz33_2, hfz33_3, hfz33_4, hfz33_5, hfz33_6, hfz33_7, hfz33_8, hfz33_9, hfz33_10, hfz33_11⟩ := bf12 BK160.out; obtain ⟨Ao34, co34, eo34⟩ := Kd.R_slice HO_3.out; subst eo34))
        have n0_ : Aside0 (Kd.R k49 49 ((((((((((((w32.setCell ⟨gb160, 0, none⟩ (.bool ((rd_T49 l0 x9_1).f0.f0))).setCell ⟨gb160, 1, none⟩ (.int .i64 ((rd_T49 l0 x9_1).f0.f1))).setCell ⟨gb160, 2, none⟩ (.string ((rd_T49 l0 x9_1).f0.f2))).setCell ⟨gb160, 3, none⟩ (.int .i64 ((rd_T49 l0 x9_1).f1.f0))).setCell ⟨gb160, 4, none⟩ (.int .i64 ((rd_T49 l0 x9_1).f1.f1))).setCell ⟨gb160, 5, none⟩ (.int .i64 ((rd_T49 l0 x9_1).f1.f2))).setCell ⟨gb160, 6, none⟩ (.bool ((rd_T49 l0 x9_1).f1.f3.f0))).setCell ⟨gb160, 7, none⟩ (.int .i64 ((rd_T49 l0 x9_1).f1.f3.f1))).setCell ⟨gb160, 8, none⟩ (.string ((rd_T49 l0 x9_1).f1.f3.f2))).setCell ⟨gb160, 9, none⟩ (.bool ((rd_T49 l0 x9_1).f1.f4.f0))).setCell ⟨gb160, 10, none⟩ (.int .i64 ((rd_T49 l0 x9_1).f1.f4.f1))).setCell ⟨gb160, 11, none⟩ (.string ((rd_T49 l0 x9_1).f1.f4.f2))) w.heap.size (fun k_ => k_ ≠ gb160) (.slice Ao34 x3_1.length co34) x3_1) := ⟨by (with_reducible repeat (first | apply Kd.R_alloc | apply Kd.R_drewN | apply Kd.R_drew)); exact Kd.R_mono (Kd.R_far (p := ⟨gb160, 11, none⟩) (Kd.R_far (p := ⟨gb160, 10, none⟩) (Kd.R_far (p := ⟨gb160, 9, none⟩) (Kd.R_far (p := ⟨gb160, 8, none⟩) (Kd.R_far (p := ⟨gb160, 7, none⟩) (Kd.R_far (p := ⟨gb160, 6, none⟩) (Kd.R_far (p := ⟨gb160, 5, none⟩) (Kd.R_far (p := ⟨gb160, 4, none⟩) (Kd.R_far (p := ⟨gb160, 3, none⟩) (Kd.R_far (p := ⟨gb160, 2, none⟩) (Kd.R_far (p := ⟨gb160, 1, none⟩) (Kd.R_far (p := ⟨gb160, 0, none⟩) (Kd.R_mono HO_3.out (fun k_ hk => (⟨hk, hk.2⟩ : _ ∧ k_ ≠ gb160))) (fun _ hk => hk.2) (.bool ((rd_T49 l0 x9_1).f0.f0))) (fun _ hk => hk.2) (.int .i64 ((rd_T49 l0 x9_1).f0.f1))) (fun _ hk => hk.2) (.string ((rd_T49 l0 x9_1).f0.f2))) (fun _ hk => hk.2) (.int .i64 ((rd_T49 l0 x9_1).f1.f0))) (fun _ hk => hk.2) (.int .i64 ((rd_T49 l0 x9_1).f1.f1))) (fun _ hk => hk.2) (.int .i64 ((rd_T49 l0 x9_1).f1.f2))) (fun _ hk => hk.2) (.bool ((rd_T49 l0 x9_1).f1.f3.f0))) (fun _ hk => hk.2) (.int .i64 ((rd_T49 l0 x9_1).f1.f3.f1))) (fun _ hk => hk.2) (.string ((rd_T49 l0 x9_1).f1.f3.f2))) (fun _ hk => hk.2) (.bool ((rd_T49 l0 x9_1).f1.f4.f0))) (fun _ hk => hk.2) (.int .i64 ((rd_T49 l0 x9_1).f1.f4.f1))) (fun _ hk => hk.2) (.string ((rd_T49 l0 x9_1).f1.f4.f2))) (fun _ hk => hk.1.2)⟩
        have n1_ : Aside0 (((((((((((((w32.setCell ⟨gb160, 0, none⟩ (.bool ((rd_T49 l0 x9_1).f0.f0))).setCell ⟨gb160, 1, none⟩ (.int .i64 ((rd_T49 l0 x9_1).f0.f1))).setCell ⟨gb160, 2, none⟩ (.string ((rd_T49 l0 x9_1).f0.f2))).setCell ⟨gb160, 3, none⟩ (.int .i64 ((rd_T49 l0 x9_1).f1.f0))).setCell ⟨gb160, 4, none⟩ (.int .i64 ((rd_T49 l0 x9_1).f1.f1))).setCell ⟨gb160, 5, none⟩ (.int .i64 ((rd_T49 l0 x9_1).f1.f2))).setCell ⟨gb160, 6, none⟩ (.bool ((rd_T49 l0 x9_1).f1.f3.f0))).setCell ⟨gb160, 7, none⟩ (.int .i64 ((rd_T49 l0 x9_1).f1.f3.f1))).setCell ⟨gb160, 8, none⟩ (.string ((rd_T49 l0 x9_1).f1.f3.f2))).setCell ⟨gb160, 9, none⟩ (.bool ((rd_T49 l0 x9_1).f1.f4.f0))).setCell ⟨gb160, 10, none⟩ (.int .i64 ((rd_T49 l0 x9_1).f1.f4.f1))).setCell ⟨gb160, 11, none⟩ (.string ((rd_T49 l0 x9_1).f1.f4.f2))).heap[gb160]? = some (.cells #[.bool ((rd_T49 l0 x9_1).f0.f0), .int .i64 ((rd_T49 l0 x9_1).f0.f1), .string ((rd_T49 l0 x9_1).f0.f2), .int .i64 ((rd_T49 l0 x9_1).f1.f0), .int .i64 ((rd_T49 l0 x9_1).f1.f1), .int .i64 ((rd_T49 l0 x9_1).f1.f2), .bool ((rd_T49 l0 x9_1).f1.f3.f0), .int .i64 ((rd_T49 l0 x9_1).f1.f3.f1), .string ((rd_T49 l0 x9_1).f1.f3.f2), .bool ((rd_T49 l0 x9_1).f1.f4.f0), .int .i64 ((rd_T49 l0 x9_1).f1.f4.f1), .string ((rd_T49 l0 x9_1).f1.f4.f2)] 49 (0, 0))) := ⟨by refine blk_put (cs := #[.bool ((rd_T49 l0 x9_1).f0.f0), .int .i64 ((rd_T49 l0 x9_1).f0.f1), .string ((rd_T49 l0 x9_1).f0.f2), .int .i64 ((rd_T49 l0 x9_1).f1.f0), .int .i64 ((rd_T49 l0 x9_1).f1.f1), .int .i64 ((rd_T49 l0 x9_1).f1.f2), .bool ((rd_T49 l0 x9_1).f1.f3.f0), .int .i64 ((rd_T49 l0 x9_1).f1.f3.f1), .string ((rd_T49 l0 x9_1).f1.f3.f2), .bool ((rd_T49 l0 x9_1).f1.f4.f0), .int .i64 ((rd_T49 l0 x9_1).f1.f4.f1), .string (⟨#[]⟩ : ByteArray)]) ?_ 11 _ rfl; refine blk_put (cs := #[.bool ((rd_T49 l0 x9_1).f0.f0), .int .i64 ((rd_T49 l0 x9_1).f0.f1), .string ((rd_T49 l0 x9_1).f0.f2), .int .i64 ((rd_T49 l0 x9_1).f1.f0), .int .i64 ((rd_T49 l0 x9_1).f1.f1), .int .i64 ((rd_T49 l0 x9_1).f1.f2), .bool ((rd_T49 l0 x9_1).f1.f3.f0), .int .i64 ((rd_T49 l0 x9_1).f1.f3.f1), .string ((rd_T49 l0 x9_1).f1.f3.f2), .bool ((rd_T49 l0 x9_1).f1.f4.f0), .int .i64 0, .string (⟨#[]⟩ : ByteArray)]) ?_ 10 _ rfl; refine blk_put (cs := #[.bool ((rd_T49 l0 x9_1).f0.f0), .int .i64 ((rd_T49 l0 x9_1).f0.f1), .string ((rd_T49 l0 x9_1).f0.f2), .int .i64 ((rd_T49 l0 x9_1).f1.f0), .int .i64 ((rd_T49 l0 x9_1).f1.f1), .int .i64 ((rd_T49 l0 x9_1).f1.f2), .bool ((rd_T49 l0 x9_1).f1.f3.f0), .int .i64 ((rd_T49 l0 x9_1).f1.f3.f1), .string ((rd_T49 l0 x9_1).f1.f3.f2), .bool false, .int .i64 0, .string (⟨#[]⟩ : ByteArray)]) ?_ 9 _ rfl; refine blk_put (cs := #[.bool ((rd_T49 l0 x9_1).f0.f0), .int .i64 ((rd_T49 l0 x9_1).f0.f1), .string ((rd_T49 l0 x9_1).f0.f2), .int .i64 ((rd_T49 l0 x9_1).f1.f0), .int .i64 ((rd_T49 l0 x9_1).f1.f1), .int .i64 ((rd_T49 l0 x9_1).f1.f2), .bool ((rd_T49 l0 x9_1).f1.f3.f0), .int .i64 ((rd_T49 l0 x9_1).f1.f3.f1), .string (⟨#[]⟩ : ByteArray), .bool false, .int .i64 0, .string (⟨#[]⟩ : ByteArray)]) ?_ 8 _ rfl; refine blk_put (cs := #[.bool ((rd_T49 l0 x9_1).f0.f0), .int .i64 ((rd_T49 l0 x9_1).f0.f1), .string ((rd_T49 l0 x9_1).f0.f2), .int .i64 ((rd_T49 l0 x9_1).f1.f0), .int .i64 ((rd_T49 l0 x9_1).f1.f1), .int .i64 ((rd_T49 l0 x9_1).f1.f2), .bool ((rd_T49 l0 x9_1).f1.f3.f0), .int .i64 0, .string (⟨#[]⟩ : ByteArray), .bool false, .int .i64 0, .string (⟨#[]⟩ : ByteArray)]) ?_ 7 _ rfl; refine blk_put (cs := #[.bool ((rd_T49 l0 x9_1).f0.f0), .int .i64 ((rd_T49 l0 x9_1).f0.f1), .string ((rd_T49 l0 x9_1).f0.f2), .int .i64 ((rd_T49 l0 x9_1).f1.f0), .int .i64 ((rd_T49 l0 x9_1).f1.f1), .int .i64 ((rd_T49 l0 x9_1).f1.f2), .bool false, .int .i64 0, .string (⟨#[]⟩ : ByteArray), .bool false, .int .i64 0, .string (⟨#[]⟩ : ByteArray)]) ?_ 6 _ rfl; refine blk_put (cs := #[.bool ((rd_T49 l0 x9_1).f0.f0), .int .i64 ((rd_T49 l0 x9_1).f0.f1), .string ((rd_T49 l0 x9_1).f0.f2), .int .i64 ((rd_T49 l0 x9_1).f1.f0), .int .i64 ((rd_T49 l0 x9_1).f1.f1), .int .i64 0, .bool false, .int .i64 0, .string (⟨#[]⟩ : ByteArray), .bool false, .int .i64 0, .string (⟨#[]⟩ : ByteArray)]) ?_ 5 _ rfl; refine blk_put (cs := #[.bool ((rd_T49 l0 x9_1).f0.f0), .int .i64 ((rd_T49 l0 x9_1).f0.f1), .string ((rd_T49 l0 x9_1).f0.f2), .int .i64 ((rd_T49 l0 x9_1).f1.f0), .int .i64 0, .int .i64 0, .bool false, .int .i64 0, .string (⟨#[]⟩ : ByteArray), .bool false, .int .i64 0, .string (⟨#[]⟩ : ByteArray)]) ?_ 4 _ rfl; refine blk_put (cs := #[.bool ((rd_T49 l0 x9_1).f0.f0), .int .i64 ((rd_T49 l0 x9_1).f0.f1), .string ((rd_T49 l0 x9_1).f0.f2), .int .i64 0, .int .i64 0, .int .i64 0, .bool false, .int .i64 0, .string (⟨#[]⟩ : ByteArray), .bool false, .int .i64 0, .string (⟨#[]⟩ : ByteArray)]) ?_ 3 _ rfl; refine blk_put (cs := #[.bool ((rd_T49 l0 x9_1).f0.f0), .int .i64 ((rd_T49 l0 x9_1).f0.f1), .string (⟨#[]⟩ : ByteArray), .int .i64 0, .int .i64 0, .int .i64 0, .bool false, .int .i64 0, .string (⟨#[]⟩ : ByteArray), .bool false, .int .i64 0, .string (⟨#[]⟩ : ByteArray)]) ?_ 2 _ rfl; refine blk_put (cs := #[.bool ((rd_T49 l0 x9_1).f0.f0), .int .i64 0, .string (⟨#[]⟩ : ByteArray), .int .i64 0, .int .i64 0, .int .i64 0, .bool false, .int .i64 0, .string (⟨#[]⟩ : ByteArray), .bool false, .int .i64 0, .string (⟨#[]⟩ : ByteArray)]) ?_ 1 _ rfl; refine blk_put (cs := #[.bool false, .int .i64 0, .string (⟨#[]⟩ : ByteArray), .int .i64 0, .int .i64 0, .int .i64 0, .bool false, .int .i64 0, .string (⟨#[]⟩ : ByteArray), .bool false, .int .i64 0, .string (⟨#[]⟩ : ByteArray)]) ?_ 0 _ rfl; (with_reducible repeat (first | refine blk_drewN ?_ _ | refine blk_drew ?_ | refine blk_alloc ?_ _)); exact BK160.out⟩
        have n2_ : Aside0 (Below w.heap.size w ((((((((((((w32.setCell ⟨gb160, 0, none⟩ (.bool ((rd_T49 l0 x9_1).f0.f0))).setCell ⟨gb160, 1, none⟩ (.int .i64 ((rd_T49 l0 x9_1).f0.f1))).setCell ⟨gb160, 2, none⟩ (.string ((rd_T49 l0 x9_1).f0.f2))).setCell ⟨gb160, 3, none⟩ (.int .i64 ((rd_T49 l0 x9_1).f1.f0))).setCell ⟨gb160, 4, none⟩ (.int .i64 ((rd_T49 l0 x9_1).f1.f1))).setCell ⟨gb160, 5, none⟩ (.int .i64 ((rd_T49 l0 x9_1).f1.f2))).setCell ⟨gb160, 6, none⟩ (.bool ((rd_T49 l0 x9_1).f1.f3.f0))).setCell ⟨gb160, 7, none⟩ (.int .i64 ((rd_T49 l0 x9_1).f1.f3.f1))).setCell ⟨gb160, 8, none⟩ (.string ((rd_T49 l0 x9_1).f1.f3.f2))).setCell ⟨gb160, 9, none⟩ (.bool ((rd_T49 l0 x9_1).f1.f4.f0))).setCell ⟨gb160, 10, none⟩ (.int .i64 ((rd_T49 l0 x9_1).f1.f4.f1))).setCell ⟨gb160, 11, none⟩ (.string ((rd_T49 l0 x9_1).f1.f4.f2)))) := ⟨by repeat (first | (with_reducible first | exact HB.out | apply below_alloc | apply pw_below_drewN | apply below_drew1 | refine below_set ?_ GE160.out) | exact HB.out)⟩
        (try clear HO_3)
        (try clear BK160)
        (try clear HB)
        generalize ((((((((((((w32.setCell ⟨gb160, 0, none⟩ (.bool ((rd_T49 l0 x9_1).f0.f0))).setCell ⟨gb160, 1, none⟩ (.int .i64 ((rd_T49 l0 x9_1).f0.f1))).setCell ⟨gb160, 2, none⟩ (.string ((rd_T49 l0 x9_1).f0.f2))).setCell ⟨gb160, 3, none⟩ (.int .i64 ((rd_T49 l0 x9_1).f1.f0))).setCell ⟨gb160, 4, none⟩ (.int .i64 ((rd_T49 l0 x9_1).f1.f1))).setCell ⟨gb160, 5, none⟩ (.int .i64 ((rd_T49 l0 x9_1).f1.f2))).setCell ⟨gb160, 6, none⟩ (.bool ((rd_T49 l0 x9_1).f1.f3.f0))).setCell ⟨gb160, 7, none⟩ (.int .i64 ((rd_T49 l0 x9_1).f1.f3.f1))).setCell ⟨gb160, 8, none⟩ (.string ((rd_T49 l0 x9_1).f1.f3.f2))).setCell ⟨gb160, 9, none⟩ (.bool ((rd_T49 l0 x9_1).f1.f4.f0))).setCell ⟨gb160, 10, none⟩ (.int .i64 ((rd_T49 l0 x9_1).f1.f4.f1))).setCell ⟨gb160, 11, none⟩ (.string ((rd_T49 l0 x9_1).f1.f4.f2))) = w35 at n0_ n1_ n2_ ⊢
        have HO_3 := n0_
        have BK160 := n1_
        have HB := n2_
        clear n0_ n1_ n2_
        have n0_ := Aside0.mk (Kd.R_drew HO_3.out)
        have n1_ := Aside0.mk (blk_drew BK160.out)
        have n2_ := Aside0.mk (below_drew1 HB.out)
        clear HO_3
        clear BK160
        clear HB
        have HO_3 := n0_
        have BK160 := n1_
        have HB := n2_
        clear n0_ n1_ n2_
        refine start_ (n := 11) (S := fun w' => True) (ds := []) #[false, false, false, false, false, false, false, false, false, false, false] (by kernel_rfl) rfl rfl trivial (fun hHeld => ?_); refine with_tabW groups_gather.tab6 groups_gather.bits6 (fun HT_ HW_ => ?_)
        generalize w35.drew = w36 at HO_3 BK160 HB hHeld ⊢
        refine pure_ (i := 0) (N := some 16) (v := ?_) (a' := ?_) #[true, false, false, false, false, false, false, false, false, false, false] rfl rfl (any_of HT_.out (by kernel_rfl)) (fun _ _ _ h => h) (Or.inl ⟨by rfl, ?_⟩) ?_ ?_
        rotate_left
        ·intro w'
         go_simp
         with_reducible rfl
        rotate_left
        ·simp only [Act.put, List.setIfInBounds_toArray, List.set_cons_zero, List.set_cons_succ, i64_w, i32_w]
         rfl
        refine pure_ (i := 1) (N := some 17) (v := ?_) (a' := ?_) #[true, true, false, false, false, false, false, false, false, false, false] rfl rfl (any_of HT_.out (by kernel_rfl)) (fun _ _ _ h => h) (Or.inl ⟨by rfl, ?_⟩) ?_ ?_
        rotate_left
        ·intro w'
         go_simp
         with_reducible rfl
        rotate_left
        ·simp only [Act.put, List.setIfInBounds_toArray, List.set_cons_zero, List.set_cons_succ, i64_w, i32_w]
         rfl
        refine pure_ (i := 2) (N := some 18) (v := ?_) (a' := ?_) #[true, true, true, false, false, false, false, false, false, false, false] rfl rfl (any_of HT_.out (by kernel_rfl)) (fun _ _ _ h => h) (Or.inl ⟨by rfl, ?_⟩) ?_ ?_
        rotate_left
        ·intro w'
         go_simp
         with_reducible rfl
        rotate_left
        ·simp only [Act.put, List.setIfInBounds_toArray, List.set_cons_zero, List.set_cons_succ, i64_w, i32_w]
         rfl
        refine pure_ (i := 3) (N := some 19) (v := undef) (a' := ?_) #[true, true, true, true, false, false, false, false, false, false, false] rfl rfl (any_of HT_.out (by kernel_rfl)) (fun _ _ _ h => h) (Or.inr ⟨by rfl, rfl⟩) ?_ ?_
        rotate_left
        ·simp only [Act.put, List.setIfInBounds_toArray, List.set_cons_zero, List.set_cons_succ, i64_w, i32_w]
         rfl
        refine pure_ (i := 4) (N := some 20) (v := undef) (a' := ?_) #[true, true, true, true, true, false, false, false, false, false, false] rfl rfl (any_of HT_.out (by kernel_rfl)) (fun _ _ _ h => h) (Or.inr ⟨by rfl, rfl⟩) ?_ ?_
        rotate_left
        ·simp only [Act.put, List.setIfInBounds_toArray, List.set_cons_zero, List.set_cons_succ, i64_w, i32_w]
         rfl
        refine pure_ (i := 5) (N := some 21) (v := undef) (a' := ?_) #[true, true, true, true, true, true, false, false, false, false, false] rfl rfl (any_of HT_.out (by kernel_rfl)) (fun _ _ _ h => h) (Or.inr ⟨by rfl, rfl⟩) ?_ ?_
        rotate_left
        ·simp only [Act.put, List.setIfInBounds_toArray, List.set_cons_zero, List.set_cons_succ, i64_w, i32_w]
         rfl
        refine pure_ (i := 6) (N := some 22) (v := undef) (a' := ?_) #[true, true, true, true, true, true, true, false, false, false, false] rfl rfl (any_of HT_.out (by kernel_rfl)) (fun _ _ _ h => h) (Or.inr ⟨by rfl, rfl⟩) ?_ ?_
        rotate_left
        ·simp only [Act.put, List.setIfInBounds_toArray, List.set_cons_zero, List.set_cons_succ, i64_w, i32_w]
         rfl
        refine pure_ (i := 7) (N := some 23) (v := undef) (a' := ?_) #[true, true, true, true, true, true, true, true, false, false, false] rfl rfl (any_of HT_.out (by kernel_rfl)) (fun _ _ _ h => h) (Or.inr ⟨by rfl, rfl⟩) ?_ ?_
        rotate_left
        ·simp only [Act.put, List.setIfInBounds_toArray, List.set_cons_zero, List.set_cons_succ, i64_w, i32_w]
         rfl
        refine pure_ (i := 8) (N := some 24) (v := undef) (a' := ?_) #[true, true, true, true, true, true, true, true, true, false, false] rfl rfl (any_of HT_.out (by kernel_rfl)) (fun _ _ _ h => h) (Or.inr ⟨by rfl, rfl⟩) ?_ ?_
        rotate_left
        ·simp only [Act.put, List.setIfInBounds_toArray, List.set_cons_zero, List.set_cons_succ, i64_w, i32_w]
         rfl
        refine pure_ (i := 9) (N := some 25) (v := undef) (a' := ?_) #[true, true, true, true, true, true, true, true, true, true, false] rfl rfl (any_of HT_.out (by kernel_rfl)) (fun _ _ _ h => h) (Or.inr ⟨by rfl, rfl⟩) ?_ ?_
        rotate_left
        ·simp only [Act.put, List.setIfInBounds_toArray, List.set_cons_zero, List.set_cons_succ, i64_w, i32_w]
         rfl
        refine pure_ (i := 10) (N := some 26) (v := ?_) (a' := ?_) #[true, true, true, true, true, true, true, true, true, true, true] rfl rfl (any_of HT_.out (by kernel_rfl)) (fun _ _ _ h => h) (Or.inl ⟨by rfl, ?_⟩) ?_ ?_
        rotate_left
        ·intro w'
         go_simp
         with_reducible rfl
        rotate_left
        ·simp only [Act.put, List.setIfInBounds_toArray, List.set_cons_zero, List.set_cons_succ, i64_w, i32_w]
         rfl
        refine done_ (done_of HT_.out (by kernel_rfl)) ?_
        obtain ⟨hcz37_0, hcz37_1, hcz37_2, hcz37_3, hcz37_4, hcz37_5, hcz37_6, hcz37_7, hcz37_8, hcz37_9, hcz37_10, hcz37_11⟩ := bc12 BK160.out
        obtain ⟨hfz37_0, hfz37_1, hfz37_2, hfz37_3, hfz37_4, hfz37_5, hfz37_6, hfz37_7, hfz37_8, hfz37_9, hfz37_10, hfz37_11⟩ := bf12 BK160.out
        try go_wp2_with (first | ((with_reducible refine gate_builtin (b := .append) (xs := #[.tmp 39, .tmp 41]) rfl ?_); at_builtin; refine Kd.R_append k49 (w0 := w) w.heap.size rfl (.tmp 39) (.tmp 41) 44 49 (.agg #[(.bool false), (.int .i64 0), (.string ⟨#[]⟩), (.int .i64 0), (.int .i64 0), (.int .i64 0), (.bool false), (.int .i64 0), (.string ⟨#[]⟩), (.bool false), (.int .i64 0), (.string ⟨#[]⟩)]) 120 rfl Try.underlying44 info49 rfl (by decide) (by omega) (.slice Ao34 x3_1.length co34) x3_1 (⟨(⟨(rd_T49 l0 x9_1).f0.f0, (rd_T49 l0 x9_1).f0.f1, (rd_T49 l0 x9_1).f0.f2⟩ : S37), (⟨(rd_T49 l0 x9_1).f1.f0, (rd_T49 l0 x9_1).f1.f1, (rd_T49 l0 x9_1).f1.f2, (⟨(rd_T49 l0 x9_1).f1.f3.f0, (rd_T49 l0 x9_1).f1.f3.f1, (rd_T49 l0 x9_1).f1.f3.f2⟩ : S37), (⟨(rd_T49 l0 x9_1).f1.f4.f0, (rd_T49 l0 x9_1).f1.f4.f1, (rd_T49 l0 x9_1).f1.f4.f2⟩ : S37)⟩ : S47)⟩ : S49) [.bool ((rd_T49 l0 x9_1).f0.f0), .int .i64 ((rd_T49 l0 x9_1).f0.f1), .string ((rd_T49 l0 x9_1).f0.f2), .int .i64 ((rd_T49 l0 x9_1).f1.f0), .int .i64 ((rd_T49 l0 x9_1).f1.f1), .int .i64 ((rd_T49 l0 x9_1).f1.f2), .bool ((rd_T49 l0 x9_1).f1.f3.f0), .int .i64 ((rd_T49 l0 x9_1).f1.f3.f1), .string ((rd_T49 l0 x9_1).f1.f3.f2), .bool ((rd_T49 l0 x9_1).f1.f4.f0), .int .i64 ((rd_T49 l0 x9_1).f1.f4.f1), .string ((rd_T49 l0 x9_1).f1.f4.f2)] (fun k_ => k_ ≠ gb160) (fun _ => False) rfl rfl ?aP (fun _ hk => hk.elim) ?aF ?aO ?aB ?aS ?aL ?_; (case aP => exact k49_mkM _ _ _ (⟨(⟨(rd_T49 l0 x9_1).f0.f0, (rd_T49 l0 x9_1).f0.f1, (rd_T49 l0 x9_1).f0.f2⟩ : S37), (⟨(rd_T49 l0 x9_1).f1.f0, (rd_T49 l0 x9_1).f1.f1, (rd_T49 l0 x9_1).f1.f2, (⟨(rd_T49 l0 x9_1).f1.f3.f0, (rd_T49 l0 x9_1).f1.f3.f1, (rd_T49 l0 x9_1).f1.f3.f2⟩ : S37), (⟨(rd_T49 l0 x9_1).f1.f4.f0, (rd_T49 l0 x9_1).f1.f4.f1, (rd_T49 l0 x9_1).f1.f4.f2⟩ : S37)⟩ : S47)⟩ : S49)); (case aB => exact (by with_reducible repeat first | exact HB.out | apply below_alloc | apply pw_below_drewN | apply below_drew1 | refine below_set ?_ GE160.out)); (case aF => exact (fun k_ hk => Kd.freshB (g := gb160) (o := .cells #[.bool ((rd_T49 l0 x9_1).f0.f0), .int .i64 ((rd_T49 l0 x9_1).f0.f1), .string ((rd_T49 l0 x9_1).f0.f2), .int .i64 ((rd_T49 l0 x9_1).f1.f0), .int .i64 ((rd_T49 l0 x9_1).f1.f1), .int .i64 ((rd_T49 l0 x9_1).f1.f2), .bool ((rd_T49 l0 x9_1).f1.f3.f0), .int .i64 ((rd_T49 l0 x9_1).f1.f3.f1), .string ((rd_T49 l0 x9_1).f1.f3.f2), .bool ((rd_T49 l0 x9_1).f1.f4.f0), .int .i64 ((rd_T49 l0 x9_1).f1.f4.f1), .string ((rd_T49 l0 x9_1).f1.f4.f2)] 49 (0, 0)) (by (with_reducible repeat (first | refine blk_drewN ?_ _ | refine blk_drew ?_ | refine blk_alloc ?_ _)); exact BK160.out) k_ hk)); (case aO => exact (by (with_reducible repeat (first | apply Kd.R_alloc | apply Kd.R_drewN | apply Kd.R_drew)); exact HO_3.out)); (case aS => exact (below_size (by with_reducible repeat first | exact HB.out | apply below_alloc | apply pw_below_drewN | apply below_drew1 | refine below_set ?_ GE160.out))); (case aL => have := LMc31.out; omega); intro v178 w38 ho hb hg hat; rw [← Ny177.out] at ho; have n0_ := Aside0.mk (blk_grown (g := gb160) (o := .cells #[.bool ((rd_T49 l0 x9_1).f0.f0), .int .i64 ((rd_T49 l0 x9_1).f0.f1), .string ((rd_T49 l0 x9_1).f0.f2), .int .i64 ((rd_T49 l0 x9_1).f1.f0), .int .i64 ((rd_T49 l0 x9_1).f1.f1), .int .i64 ((rd_T49 l0 x9_1).f1.f2), .bool ((rd_T49 l0 x9_1).f1.f3.f0), .int .i64 ((rd_T49 l0 x9_1).f1.f3.f1), .string ((rd_T49 l0 x9_1).f1.f3.f2), .bool ((rd_T49 l0 x9_1).f1.f4.f0), .int .i64 ((rd_T49 l0 x9_1).f1.f4.f1), .string ((rd_T49 l0 x9_1).f1.f4.f2)] 49 (0, 0)) (by (with_reducible repeat (first | refine blk_drewN ?_ _ | refine blk_drew ?_ | refine blk_alloc ?_ _)); exact BK160.out) hg (Kd.R_away HO_3.out (fun _ hk => hk))); have n1_ := Aside0.mk (hb); have n2_ := Aside0.mk (ho); clear BK160; clear HB; clear HO_3; have BK160 := n0_; have HB := n1_; have HO179 := n2_; clear n0_ n1_ n2_; clear ho hb hg hat))
        go_roundg k1
        case measure => have := HK1.out; omega
        case rel => exact ⟨(y177), (wrap64 (x9_1 + 1)), (by first | rfl | (simp; done) | (simp [*]; done)), H', ⟨by have := HK1.out; omega⟩, ⟨by (with_reducible repeat (first | apply Kd.R_alloc | apply Kd.R_drewN | apply Kd.R_drew)); exact Kd.R_mono HO179.out (fun _ hk => trivial)⟩, ⟨by repeat (first | (with_reducible first | exact HB.out | apply below_alloc | apply pw_below_drewN | apply below_drew1 | refine below_set ?_ GE160.out) | exact HB.out)⟩⟩
       ·rw [if_neg c31] at H
        exact absurd H (by simp)
     ·rw [if_neg c4] at H
      exact absurd H (by simp)
    ·rw [if_neg c3] at H
     exact absurd H (by simp)
   ·rw [if_neg c2] at H
    have c2b0 : decide (x9_1 < (l0.length : Int)) = false := decide_eq_false c2
    clear c2
    obtain rfl := Option.some.inj H
    go_wp2
    go_ret
    exact ⟨_, by first | rfl | (simp [errW_none, errW_some] <;> rfl) | (simp [*, errW_none, errW_some] <;> rfl), by (with_reducible repeat (first | apply Kd.R_alloc | apply Kd.R_drewN | apply Kd.R_drew)); exact HO_3.out, by repeat (first | (with_reducible first | exact HB.out | apply below_alloc | apply pw_below_drewN | apply below_drew1) | exact HB.out)⟩

end Go.Proofs.Ythlelhndmnkmjaa.Pr
