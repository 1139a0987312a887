-- printed by xprint.py
import Derived.Test.YthlelhndmnkmjaaPr0
import Derived.Test.YthlelhndmnkmjaaPrf58
import Derived.Test.YthlelhndmnkmjaaPrf59
namespace Go.Proofs.Ythlelhndmnkmjaa.Pr
open Go.RowKit Go.Proofs.YthlelhndmnkmjaaW PrintWords PrintLast PrintMore
set_option linter.unusedVariables false
set_option linter.unusedSimpArgs false

/-! ### tithebarnref24_By: function 28 -/
mutual
def tithebarnref24_By.l0 : Nat → List (List (S37)) → Int → Int → List (S49) → Int → Option ((List (S49)) × Int)
 | 0, _, _, _, _, _ => none
 | k + 1, x0, x1, x2, x8, x9 => if x9 < (x0.length : Int) then (if x1 < 0 then (tithebarnref24_By.j1 k x0 x1 x2 x8 x9 true) else (if 0 ≤ x9 then (tithebarnref24_By.j1 k x0 x1 x2 x8 x9 (decide (x1 ≥ ((rd_L7 x0 x9).length : Int)))) else (none))) else (some (x8, 0))
def tithebarnref24_By.j1 : Nat → List (List (S37)) → Int → Int → List (S49) → Int → Bool → Option ((List (S49)) × Int)
 | 0, _, _, _, _, _, _ => none
 | k + 1, x0, x1, x2, x8, x9, x28 => if x28 = true then (some (([] : List (S49)), 7)) else (if 0 ≤ x9 then (if x9 ≤ (wrap64 (x9 + 1)) then (if (wrap64 (x9 + 1)) ≤ (x0.length : Int) then ((tithebarnref18_Fold.f k ((x0.take ((wrap64 (x9 + 1)) : Int).toNat).drop (x9 : Int).toNat) x2).bind fun bt315 => (if bt315.2.2.2.2.2.2.2.2.2 = 0 then (if x9 < (x0.length : Int) then (if 0 ≤ x1 then (if x1 < ((rd_L7 x0 x9).length : Int) then ((tithebarnref24_add.f k x8 ((rd_T37 (rd_L7 x0 x9) x1).f0) ((rd_T37 (rd_L7 x0 x9) x1).f1) ((rd_T37 (rd_L7 x0 x9) x1).f2) bt315.1 bt315.2.1 bt315.2.2.1 bt315.2.2.2.1 bt315.2.2.2.2.1 bt315.2.2.2.2.2.1 bt315.2.2.2.2.2.2.1 bt315.2.2.2.2.2.2.2.1 bt315.2.2.2.2.2.2.2.2.1).bind fun t328 => (tithebarnref24_By.l0 k x0 x1 x2 t328 (wrap64 (x9 + 1)))) else (none)) else (none)) else (none)) else (some (([] : List (S49)), bt315.2.2.2.2.2.2.2.2.2)))) else (none)) else (none)) else (none))
end
def tithebarnref24_By.f (k : Nat) (l0 : List (List (S37))) (a1 : Int) (a2 : Int) : Option ((List (S49)) × Int) := tithebarnref24_By.l0 k l0 a1 a2 ([] : List (S49)) 0
theorem tithebarnref24_By.mono_l : ∀ k, (∀ y0 y1 y2 y3 y4, LeO (tithebarnref24_By.l0 k y0 y1 y2 y3 y4) (tithebarnref24_By.l0 (k + 1) y0 y1 y2 y3 y4)) ∧ (∀ y0 y1 y2 y3 y4 y5, LeO (tithebarnref24_By.j1 k y0 y1 y2 y3 y4 y5) (tithebarnref24_By.j1 (k + 1) y0 y1 y2 y3 y4 y5))
 | 0 => ⟨fun _ _ _ _ _ r h => by simp [tithebarnref24_By.l0] at h, fun _ _ _ _ _ _ r h => by simp [tithebarnref24_By.j1] at h⟩
 | k + 1 => by
  obtain ⟨ih0, ih1⟩ := tithebarnref24_By.mono_l k
  refine ⟨?_, ?_⟩
  ·intro y0 y1 y2 y3 y4
   unfold tithebarnref24_By.l0
   repeat' first
   | (with_reducible exact ih0 _ _ _ _ _)
   | (with_reducible exact ih1 _ _ _ _ _ _)
   | (with_reducible exact tithebarnref18_Fold.mono _ _ _)
   | (with_reducible exact tithebarnref24_add.mono _ _ _ _ _ _ _ _ _ _ _ _ _ _)
   | (with_reducible exact LeO.refl _)
   | (with_reducible exact LeO.none _)
   | (with_reducible refine LeO.ite ?_ ?_)
   | (with_reducible refine LeO.bind ?_ (fun _ => ?_))
  ·intro y0 y1 y2 y3 y4 y5
   unfold tithebarnref24_By.j1
   repeat' first
   | (with_reducible exact ih0 _ _ _ _ _)
   | (with_reducible exact ih1 _ _ _ _ _ _)
   | (with_reducible exact tithebarnref18_Fold.mono _ _ _)
   | (with_reducible exact tithebarnref24_add.mono _ _ _ _ _ _ _ _ _ _ _ _ _ _)
   | (with_reducible exact LeO.refl _)
   | (with_reducible exact LeO.none _)
   | (with_reducible refine LeO.ite ?_ ?_)
   | (with_reducible refine LeO.bind ?_ (fun _ => ?_))
theorem tithebarnref24_By.mono : ∀ a0 a1 a2 k, LeO (tithebarnref24_By.f k a0 a1 a2) (tithebarnref24_By.f (k + 1) a0 a1 a2) := by
 intro a0 a1 a2 k
 obtain ⟨ih0, ih1⟩ := tithebarnref24_By.mono_l k
 unfold tithebarnref24_By.f
 repeat' first
   | (with_reducible exact ih0 _ _ _ _ _)
   | (with_reducible exact ih1 _ _ _ _ _ _)
   | (with_reducible exact tithebarnref18_Fold.mono _ _ _)
   | (with_reducible exact tithebarnref24_add.mono _ _ _ _ _ _ _ _ _ _ _ _ _ _)
   | (with_reducible exact LeO.refl _)
   | (with_reducible exact LeO.none _)
   | (with_reducible refine LeO.ite ?_ ?_)
   | (with_reducible refine LeO.bind ?_ (fun _ => ?_))
def tithebarnref24_By.T10 : Bool × List (List Nat × List Nat) := (true, [([], []), ([], []), ([], []), ([1, 2], [1, 2]), ([3], [3]), ([], []), ([4, 5], [4, 5]), ([6], [6]), ([], []), ([7, 8], [7, 8]), ([0, 9], [0, 9]), ([10, 10, 0, 1, 2, 3, 4, 5, 6, 7, 8, 9, 10], [0, 10])])
def tithebarnref24_By.B10 : List Nat := [0, 0, 0, 6, 14, 0, 62, 126, 0, 510, 1023, 2047]
theorem tithebarnref24_By.tab10 : rtab .any (opsOf Try.f28 10) = tithebarnref24_By.T10 := by kernel_rfl
theorem tithebarnref24_By.bits10 : waitsOk tithebarnref24_By.T10.2 tithebarnref24_By.B10 = true := by kernel_rfl
set_option maxHeartbeats 8000000 in
set_option maxRecDepth 100000 in
theorem tithebarnref24_By.calls (k : Nat) (A0 : Option Addr) (c0 : Nat) (l0 : List (List (S37))) (a1 : Int) (a2 : Int) (r1 : List (S49)) (r2 : Int) (w : World) (hr0 : Kd.C (Kd.slice 37 k37) w A0 l0.length l0) (hc0 : l0.length ≤ c0) (h : tithebarnref24_By.f k l0 a1 a2 = some (r1, r2)) :
  Calls Try.prog 28 #[.slice A0 l0.length c0, .int .i64 a1, .int .i64 a2] w fun e w' => ∃ v0_ : Value, e = .returned (.tuple #[v0_, .int .i64 r2]) ∧ Kd.R k49 49 w' w.heap.size (fun _ => True) v0_ r1 ∧ Below w.heap.size w w' := by
 have hu47 := Try.underlying47
 have hu37 := Try.underlying37
 have hu49 := Try.underlying49
 have HR0 := Aside0.mk hr0
 have HC0 := Aside0.mk hc0
 clear hr0 hc0
 have HB := Aside0.mk (Below.refl w.heap.size w)
 have H : (tithebarnref24_By.l0 k l0 a1 a2 ([] : List (S49)) 0) = some (r1, r2) := h
 clear h
 have H' := Aside0.mk H
 clear H
 go_enter Try.func28, Try.ntmps28
 go_wp2
 go_loopg [8, 9] k (fun kq v8 v9 w' => ∃ (x8_1 : List (S49)) (x9_1 : Int), v9 = .int .i64 x9_1 ∧ Aside0 (tithebarnref24_By.l0 kq l0 a1 a2 x8_1 x9_1 = some (r1, r2)) ∧ Aside0 (kq ≤ k) ∧ Aside0 (Kd.R k49 49 w' w.heap.size (fun _ => True) v8 x8_1) ∧ Aside0 (Below w.heap.size w w'))
 case atStart => exact ⟨(([] : List (S49))), (0), (by first | rfl | (simp; done) | (simp [*]; done)), H', ⟨Nat.le_refl _⟩, ⟨by first | exact Kd.R_nil _ _ _ _ _ | exact Kd.N_nil _ _ _ _ _ | exact Kd.V_nil _ _ _ _ _ | exact Kd.Q_nil _ _ _ _ _ | exact Kd.S_nil _ _ _ _ _⟩, ⟨by repeat (first | (with_reducible first | exact HB.out | apply below_alloc | apply pw_below_drewN | apply below_drew1) | exact HB.out)⟩⟩
 case round =>
  clear H'
  try clear c2
  try clear p2
  obtain ⟨x8_1, x9_1, rfl, HA, HK1, HO_8, HB⟩ := hrel
  cases gk with
  | zero => exact absurd HA.out (by simp [tithebarnref24_By.l0])
  | succ k1 =>
   have H := HA.out
   clear HA
   simp only [tithebarnref24_By.l0] at H
   by_cases c4 : x9_1 < (l0.length : Int)
   ·rw [if_pos c4] at H
    have c4b0 : decide (x9_1 < (l0.length : Int)) = true := decide_eq_true c4
    clear c4
    have HC5 := Aside0.mk H
    clear H
    go_upto_region 5 with (fail)
    go_cut [28] (fun v28 wc => ∃ (kq : Nat) (x28_4 : Bool), v28 = .bool x28_4 ∧ Aside0 (tithebarnref24_By.j1 kq l0 a1 a2 x8_1 x9_1 x28_4 = some (r1, r2)) ∧ Aside0 (kq ≤ k1) ∧ Aside0 (Kd.R k49 49 wc w.heap.size (fun _ => True) u8 x8_1) ∧ Aside0 (Below w.heap.size w wc))
    case first =>
     have H := HC5.out
     clear HC5
     by_cases c6 : a1 < 0
     ·rw [if_pos c6] at H
      have c6b0 : decide (a1 < 0) = true := decide_eq_true c6
      clear c6
      (first | rw [c6b0] | (simp only [i64_w, i32_w]; rw [c6b0]) | skip)
      have H' := Aside0.mk H
      clear H
      go_wp2
      go_meet
      case rel => exact ⟨_, (true), (by first | rfl | (simp; done) | (simp [*]; done)), H', ⟨by have := HK1.out; first | omega | exact Nat.le_refl _⟩, ⟨by (with_reducible repeat (first | apply Kd.R_alloc | apply Kd.R_drewN | apply Kd.R_drew)); exact HO_8.out⟩, ⟨by repeat (first | (with_reducible first | exact HB.out | apply below_alloc | apply pw_below_drewN | apply below_drew1) | exact HB.out)⟩⟩
     ·rw [if_neg c6] at H
      have c6b0 : decide (a1 < 0) = false := decide_eq_false c6
      clear c6
      (first | rw [c6b0] | (simp only [i64_w, i32_w]; rw [c6b0]) | skip)
      by_cases c7 : 0 ≤ x9_1
      ·rw [if_pos c7] at H
       have c7b0 : decide (0 ≤ x9_1) = true := decide_eq_true c7
       clear c7
       have H' := Aside0.mk H
       clear H
       have p310 : 0 ≤ (x9_1 : Int) := of_decide_eq_true (by with_reducible assumption)
       have q310 : x9_1 < (l0.length : Int) := of_decide_eq_true (by with_reducible assumption)
       obtain ⟨ad310, A310_0, c310_0, e310, hx310_0, hl310_0, hi310_0⟩ := at_L7 HR0.out x9_1 p310 q310
       cases e310
       replace hx310_0 := pw_cell_below HB.out hx310_0
       have HR310_0 := Aside0.mk hi310_0
       have HC310_0 := Aside0.mk hl310_0
       clear hi310_0 hl310_0
       replace p310 := eq_true p310
       replace q310 := eq_true q310
       go_wp2
       go_meet
       case rel => exact ⟨_, (decide (a1 ≥ ((rd_L7 l0 x9_1).length : Int))), (by first | rfl | (simp; done) | (simp [*]; done)), H', ⟨by have := HK1.out; first | omega | exact Nat.le_refl _⟩, ⟨by (with_reducible repeat (first | apply Kd.R_alloc | apply Kd.R_drewN | apply Kd.R_drew)); exact HO_8.out⟩, ⟨by repeat (first | (with_reducible first | exact HB.out | apply below_alloc | apply pw_below_drewN | apply below_drew1) | exact HB.out)⟩⟩
      ·rw [if_neg c7] at H
       exact absurd H (by simp)
    case rest =>
     clear HC5
     try clear c2
     try clear p2
     try clear c3
     try clear p3
     try clear q3
     try clear hx3
     try clear c4
     try clear c4b0
     try clear c6
     try clear c6b0
     try clear c7
     try clear c7b0
     try clear hx310_0
     try clear p2
     try clear p310
     try clear q310
     obtain ⟨kq, x28_4, rfl, HA, HJ4, HO_8, HB⟩ := hcut
     cases kq with
     | zero => exact absurd HA.out (by simp [tithebarnref24_By.j1])
     | succ kj4 =>
      have H := HA.out
      clear HA
      simp only [tithebarnref24_By.j1] at H
      by_cases c8 : x28_4 = true
      ·subst c8
       have H1 : (some (([] : List (S49)), 7)) = some (r1, r2) := by rw [if_pos rfl] at H; exact H
       clear H
       have H := H1
       clear H1
       simp only [Option.some.injEq, Prod.mk.injEq] at H
       obtain ⟨rfl, rfl⟩ := H
       go_wp2
       go_ret2
       exact ⟨_, by first | rfl | (simp [errW_none, errW_some] <;> rfl) | (simp [*, errW_none, errW_some] <;> rfl), by first | exact Kd.R_nil _ _ _ _ _ | exact Kd.N_nil _ _ _ _ _ | exact Kd.V_nil _ _ _ _ _ | exact Kd.Q_nil _ _ _ _ _ | exact Kd.S_nil _ _ _ _ _, by repeat (first | (with_reducible first | exact HB.out | apply below_alloc | apply pw_below_drewN | apply below_drew1) | exact HB.out)⟩
      ·replace c8 := Bool.eq_false_iff.mpr c8
       subst c8
       have H1 : (if 0 ≤ x9_1 then (if x9_1 ≤ (wrap64 (x9_1 + 1)) then (if (wrap64 (x9_1 + 1)) ≤ (l0.length : Int) then ((tithebarnref18_Fold.f kj4 ((l0.take ((wrap64 (x9_1 + 1)) : Int).toNat).drop (x9_1 : Int).toNat) a2).bind fun bt315 => (if bt315.2.2.2.2.2.2.2.2.2 = 0 then (if x9_1 < (l0.length : Int) then (if 0 ≤ a1 then (if a1 < ((rd_L7 l0 x9_1).length : Int) then ((tithebarnref24_add.f kj4 x8_1 ((rd_T37 (rd_L7 l0 x9_1) a1).f0) ((rd_T37 (rd_L7 l0 x9_1) a1).f1) ((rd_T37 (rd_L7 l0 x9_1) a1).f2) bt315.1 bt315.2.1 bt315.2.2.1 bt315.2.2.2.1 bt315.2.2.2.2.1 bt315.2.2.2.2.2.1 bt315.2.2.2.2.2.2.1 bt315.2.2.2.2.2.2.2.1 bt315.2.2.2.2.2.2.2.2.1).bind fun t328 => (tithebarnref24_By.l0 kj4 l0 a1 a2 t328 (wrap64 (x9_1 + 1)))) else (none)) else (none)) else (none)) else (some (([] : List (S49)), bt315.2.2.2.2.2.2.2.2.2)))) else (none)) else (none)) else (none)) = some (r1, r2) := by rw [if_neg (show ¬ (false = true) by decide)] at H; exact H
       clear H
       have H := H1
       clear H1
       by_cases c9 : 0 ≤ x9_1
       ·rw [if_pos c9] at H
        have c9b0 := eq_true c9
        have c9b1 : decide (0 ≤ x9_1) = true := decide_eq_true c9
        clear c9
        by_cases c10 : x9_1 ≤ (wrap64 (x9_1 + 1))
        ·rw [if_pos c10] at H
         have c10b0 := eq_true c10
         have c10b1 : decide (x9_1 ≤ (wrap64 (x9_1 + 1))) = true := decide_eq_true c10
         by_cases c11 : (wrap64 (x9_1 + 1)) ≤ (l0.length : Int)
         ·rw [if_pos c11] at H
          have c11b0 := eq_true c11
          have c11b1 : decide ((wrap64 (x9_1 + 1)) ≤ (l0.length : Int)) = true := decide_eq_true c11
          obtain ⟨y311, hy311⟩ : ∃ y_ : List (List (S37)), y_ = ((l0.take ((wrap64 (x9_1 + 1)) : Int).toNat).drop (x9_1 : Int).toNat) := ⟨_, rfl⟩
          replace H : ((tithebarnref18_Fold.f kj4 y311 a2).bind fun bt315 => (if bt315.2.2.2.2.2.2.2.2.2 = 0 then (if x9_1 < (l0.length : Int) then (if 0 ≤ a1 then (if a1 < ((rd_L7 l0 x9_1).length : Int) then ((tithebarnref24_add.f kj4 x8_1 ((rd_T37 (rd_L7 l0 x9_1) a1).f0) ((rd_T37 (rd_L7 l0 x9_1) a1).f1) ((rd_T37 (rd_L7 l0 x9_1) a1).f2) bt315.1 bt315.2.1 bt315.2.2.1 bt315.2.2.2.1 bt315.2.2.2.2.1 bt315.2.2.2.2.2.1 bt315.2.2.2.2.2.2.1 bt315.2.2.2.2.2.2.2.1 bt315.2.2.2.2.2.2.2.2.1).bind fun t328 => (tithebarnref24_By.l0 kj4 l0 a1 a2 t328 (wrap64 (x9_1 + 1)))) else (none)) else (none)) else (none)) else (some (([] : List (S49)), bt315.2.2.2.2.2.2.2.2.2)))) = some (r1, r2) := by first | (rw [hy311]; with_reducible exact H) | (have H2_ := (Option.bind_some _ _).symm.trans H; rw [hy311]; with_reducible exact H2_) | (have H2_ := (Option.bind_some _ _).symm.trans H; with_reducible exact H2_) | with_reducible exact H | (rw [hy311]; exact H) | exact H
          have Ny311 := Aside0.mk hy311
          clear hy311
          replace H := Option.bind_eq_some_iff.mp H
          obtain ⟨⟨t315, t316, t317, t318, t319, t320, t321, t322, t323, t324⟩, A120, H⟩ := H
          replace H : (if t324 = 0 then (if x9_1 < (l0.length : Int) then (if 0 ≤ a1 then (if a1 < ((rd_L7 l0 x9_1).length : Int) then ((tithebarnref24_add.f kj4 x8_1 ((rd_T37 (rd_L7 l0 x9_1) a1).f0) ((rd_T37 (rd_L7 l0 x9_1) a1).f1) ((rd_T37 (rd_L7 l0 x9_1) a1).f2) t315 t316 t317 t318 t319 t320 t321 t322 t323).bind fun t328 => (tithebarnref24_By.l0 kj4 l0 a1 a2 t328 (wrap64 (x9_1 + 1)))) else (none)) else (none)) else (none)) else (some (([] : List (S49)), t324))) = some (r1, r2) := H
          have A12 := Aside0.mk A120
          clear A120
          by_cases c13 : t324 = 0
          ·rw [if_pos c13] at H
           have c13b0 : (t324 == 0) = true := beq_iff_eq.mpr c13
           have c13b1 : (t324 != 0) = false := bne_eq_false_iff_eq.mpr c13
           clear c13
           by_cases c14 : x9_1 < (l0.length : Int)
           ·rw [if_pos c14] at H
            have c14b0 : decide (x9_1 < (l0.length : Int)) = true := decide_eq_true c14
            clear c14
            by_cases c15 : 0 ≤ a1
            ·rw [if_pos c15] at H
             have c15b0 : decide (0 ≤ a1) = true := decide_eq_true c15
             clear c15
             by_cases c16 : a1 < ((rd_L7 l0 x9_1).length : Int)
             ·rw [if_pos c16] at H
              have c16b0 : decide (a1 < ((rd_L7 l0 x9_1).length : Int)) = true := decide_eq_true c16
              clear c16
              replace H := Option.bind_eq_some_iff.mp H
              obtain ⟨t328, A170, H⟩ := H
              replace H : (tithebarnref24_By.l0 kj4 l0 a1 a2 t328 (wrap64 (x9_1 + 1))) = some (r1, r2) := H
              have A17 := Aside0.mk A170
              clear A170
              have H' := Aside0.mk H
              clear H
              have q18 : ((wrap64 (x9_1 + 1)) : Int) ≤ ((l0.length : Int) : Int) := of_decide_eq_true (by with_reducible assumption)
              obtain ⟨i018, hi018, _, hsz18, _⟩ := info_parts info39
              have hroom18 : l0.length ≤ c0 := HC0.out
              have hC18 : Kd.C (Kd.slice 37 k37) _ A0 l0.length l0 := HR0.out
              have ql18 : (x9_1 : Int) ≤ ((wrap64 (x9_1 + 1)) : Int) := of_decide_eq_true (by with_reducible assumption)
              have q018 : (0 : Int) ≤ (x9_1 : Int) := of_decide_eq_true (by with_reducible assumption)
              have hcut18 := cut_mid (P := Try.prog) 51 39 .i64 .i64 Try.underlying51 hi018 1 hsz18 A0 l0.length c0 x9_1 (wrap64 (x9_1 + 1)) q018 ql18 q18 hroom18
              have hr18 := Kd.C_mid (lo := (x9_1 : Int).toNat) (hi := ((wrap64 (x9_1 + 1)) : Int).toNat) (c := c0) hC18 (by omega) (by omega) hroom18
              obtain ⟨A18, hA18⟩ : ∃ A1, A1 = (if c0 = (x9_1 : Int).toNat then A0 else (A0 : Option Addr).map (·.add ((x9_1 : Int).toNat * 1))) := ⟨_, rfl⟩
              obtain ⟨c18, hc18⟩ : ∃ c1, c1 = c0 - (x9_1 : Int).toNat := ⟨_, rfl⟩
              have hy18 : y311.length = ((wrap64 (x9_1 + 1)) : Int).toNat - (x9_1 : Int).toNat := (by rw [Ny311.out, List.length_drop, List.length_take] <;> omega)
              rw [show ((l0).take ((wrap64 (x9_1 + 1)) : Int).toNat).drop (x9_1 : Int).toNat = y311 from Ny311.out.symm] at hr18
              replace hr18 : Kd.C (Kd.slice 37 k37) _ A18 y311.length y311 := (by rw [hA18]; exact hr18)
              rw [← hy18, ← hA18, ← hc18] at hcut18
              have HR314 := Aside0.mk hr18
              have HC314 := Aside0.mk (show y311.length ≤ c18 from by rw [hy18, hc18]; exact Nat.sub_le_sub_right (Nat.le_trans (by omega) hroom18) _)
              clear hr18 hC18 hroom18 hi018 hsz18 hc18
              have KY18 := Aside0.mk hy18
              have KA18 := Aside0.mk hA18
              clear hy18 hA18
              replace q18 := eq_true q18
              try go_wp2_with (first | ((with_reducible refine gate_callee (f := 58) rfl ?_); refine goesL_ (some 36) rfl rfl Try.func58 (by kernel_rfl) rfl #[.slice A18 y311.length c18, .int .i64 a2] rfl (by (try simp only [List.map_toArray, List.map_cons, List.map_nil]); first | done | rfl | (simp only [List.length_drop, List.length_take]; rfl)) ?_; (with_reducible refine (tithebarnref18_Fold.calls kj4 _ _ y311 a2 t315 t316 t317 t318 t319 t320 t321 t322 t323 t324 _ ?side1 ?side2 A12.out).mono ?_); (case side1 => repeat (first | exact (Kd.C_below HR314.out HB.out) | (with_reducible refine Kd.C_alloc ?_ _) | (with_reducible refine Kd.C_drewN ?_ _) | (with_reducible refine Kd.C_drew ?_))); (case side2 => exact HC314.out); rintro e w19 ⟨rfl, hb⟩; refine ⟨_, rfl, ?_⟩; have n0_ := Aside0.mk (Kd.R_below (by (with_reducible repeat (first | apply Kd.R_alloc | apply Kd.R_drewN | apply Kd.R_drew)); exact HO_8.out) hb); have n1_ := Aside0.mk (below_step (by with_reducible repeat first | exact HB.out | apply below_alloc | apply pw_below_drewN | apply below_drew1) hb); clear HO_8; clear HB; have HO_8 := n0_; have HB := n1_; clear n0_ n1_; (try clear hb); (try clear hb2); (try clear hk); (try clear hi)) | ((with_reducible refine gate_dst (N := 10) rfl ?_); (try (refine gate_guard (by rfl) ?_; dsimp only)); refine box_event ?hg (N := 10) ?hd (cs := #[.int .i64 0, .int .i64 0, .int .i64 0, .bool false, .int .i64 0, .string (⟨#[]⟩ : ByteArray), .bool false, .int .i64 0, .string (⟨#[]⟩ : ByteArray)]) (t := 47) ?hr ?_; (case hd => rfl); (case hg => rfl); (case hr => first | (go_simp; done) | (go_simp; rfl)); intro gb325 hg w20 hbox hb; have n0_ := Aside0.mk (Kd.R_below (by (with_reducible repeat (first | apply Kd.R_alloc | apply Kd.R_drewN | apply Kd.R_drew)); exact HO_8.out) hb); have n1_ := Aside0.mk (below_step (by with_reducible repeat first | exact HB.out | apply below_alloc | apply pw_below_drewN | apply below_drew1) hb); have n2_ := Aside0.mk (hbox); have n3_ := Aside0.mk ((by rw [hg]; exact (below_size (by with_reducible repeat first | exact HB.out | apply below_alloc | apply pw_below_drewN | apply below_drew1)) : w.heap.size ≤ gb325)); have n4_ := Aside0.mk ((by rw [hg]; exact (below_size (by with_reducible repeat first | exact HB.out | apply below_alloc | apply pw_below_drewN | apply below_drew1)) : w.heap.size ≤ gb325)); clear HO_8; clear HB; have HO_8 := n0_; have HB := n1_; have BK325 := n2_; have GW325 := n3_; have GE325 := n4_; clear n0_ n1_ n2_ n3_ n4_; clear hb hbox hg; obtain ⟨hcz21_0, hcz21_1, hcz21_2, hcz21_3, hcz21_4, hcz21_5, hcz21_6, hcz21_7, hcz21_8⟩ := bc9 BK325.out; obtain ⟨hfz21_0, hfz21_1, hfz21_2, hfz21_3, hfz21_4, hfz21_5, hfz21_6, hfz21_7, hfz21_8⟩ := bf9 BK325.out))
              have n0_ : Aside0 (Kd.R k49 49 (((((((((w20.setCell ⟨gb325, 0, none⟩ (.int .i64 t315)).setCell ⟨gb325, 1, none⟩ (.int .i64 t316)).setCell ⟨gb325, 2, none⟩ (.int .i64 t317)).setCell ⟨gb325, 3, none⟩ (.bool t318)).setCell ⟨gb325, 4, none⟩ (.int .i64 t319)).setCell ⟨gb325, 5, none⟩ (.string t320)).setCell ⟨gb325, 6, none⟩ (.bool t321)).setCell ⟨gb325, 7, none⟩ (.int .i64 t322)).setCell ⟨gb325, 8, none⟩ (.string t323)) w.heap.size (fun _ => True) u8 x8_1) := ⟨by (with_reducible repeat (first | apply Kd.R_alloc | apply Kd.R_drewN | apply Kd.R_drew)); exact Kd.R_mono (Kd.R_far (p := ⟨gb325, 8, none⟩) (Kd.R_far (p := ⟨gb325, 7, none⟩) (Kd.R_far (p := ⟨gb325, 6, none⟩) (Kd.R_far (p := ⟨gb325, 5, none⟩) (Kd.R_far (p := ⟨gb325, 4, none⟩) (Kd.R_far (p := ⟨gb325, 3, none⟩) (Kd.R_far (p := ⟨gb325, 2, none⟩) (Kd.R_far (p := ⟨gb325, 1, none⟩) (Kd.R_far (p := ⟨gb325, 0, none⟩) (Kd.R_types HO_8.out BK325.out (by decide)) (fun _ hk => hk.2) (.int .i64 t315)) (fun _ hk => hk.2) (.int .i64 t316)) (fun _ hk => hk.2) (.int .i64 t317)) (fun _ hk => hk.2) (.bool t318)) (fun _ hk => hk.2) (.int .i64 t319)) (fun _ hk => hk.2) (.string t320)) (fun _ hk => hk.2) (.bool t321)) (fun _ hk => hk.2) (.int .i64 t322)) (fun _ hk => hk.2) (.string t323)) (fun _ hk => trivial)⟩
              have n1_ : Aside0 ((((((((((w20.setCell ⟨gb325, 0, none⟩ (.int .i64 t315)).setCell ⟨gb325, 1, none⟩ (.int .i64 t316)).setCell ⟨gb325, 2, none⟩ (.int .i64 t317)).setCell ⟨gb325, 3, none⟩ (.bool t318)).setCell ⟨gb325, 4, none⟩ (.int .i64 t319)).setCell ⟨gb325, 5, none⟩ (.string t320)).setCell ⟨gb325, 6, none⟩ (.bool t321)).setCell ⟨gb325, 7, none⟩ (.int .i64 t322)).setCell ⟨gb325, 8, none⟩ (.string t323)).heap[gb325]? = some (.cells #[.int .i64 t315, .int .i64 t316, .int .i64 t317, .bool t318, .int .i64 t319, .string t320, .bool t321, .int .i64 t322, .string t323] 47 (0, 0))) := ⟨by refine blk_put (cs := #[.int .i64 t315, .int .i64 t316, .int .i64 t317, .bool t318, .int .i64 t319, .string t320, .bool t321, .int .i64 t322, .string (⟨#[]⟩ : ByteArray)]) ?_ 8 _ rfl; refine blk_put (cs := #[.int .i64 t315, .int .i64 t316, .int .i64 t317, .bool t318, .int .i64 t319, .string t320, .bool t321, .int .i64 0, .string (⟨#[]⟩ : ByteArray)]) ?_ 7 _ rfl; refine blk_put (cs := #[.int .i64 t315, .int .i64 t316, .int .i64 t317, .bool t318, .int .i64 t319, .string t320, .bool false, .int .i64 0, .string (⟨#[]⟩ : ByteArray)]) ?_ 6 _ rfl; refine blk_put (cs := #[.int .i64 t315, .int .i64 t316, .int .i64 t317, .bool t318, .int .i64 t319, .string (⟨#[]⟩ : ByteArray), .bool false, .int .i64 0, .string (⟨#[]⟩ : ByteArray)]) ?_ 5 _ rfl; refine blk_put (cs := #[.int .i64 t315, .int .i64 t316, .int .i64 t317, .bool t318, .int .i64 0, .string (⟨#[]⟩ : ByteArray), .bool false, .int .i64 0, .string (⟨#[]⟩ : ByteArray)]) ?_ 4 _ rfl; refine blk_put (cs := #[.int .i64 t315, .int .i64 t316, .int .i64 t317, .bool false, .int .i64 0, .string (⟨#[]⟩ : ByteArray), .bool false, .int .i64 0, .string (⟨#[]⟩ : ByteArray)]) ?_ 3 _ rfl; refine blk_put (cs := #[.int .i64 t315, .int .i64 t316, .int .i64 0, .bool false, .int .i64 0, .string (⟨#[]⟩ : ByteArray), .bool false, .int .i64 0, .string (⟨#[]⟩ : ByteArray)]) ?_ 2 _ rfl; refine blk_put (cs := #[.int .i64 t315, .int .i64 0, .int .i64 0, .bool false, .int .i64 0, .string (⟨#[]⟩ : ByteArray), .bool false, .int .i64 0, .string (⟨#[]⟩ : ByteArray)]) ?_ 1 _ rfl; refine blk_put (cs := #[.int .i64 0, .int .i64 0, .int .i64 0, .bool false, .int .i64 0, .string (⟨#[]⟩ : ByteArray), .bool false, .int .i64 0, .string (⟨#[]⟩ : ByteArray)]) ?_ 0 _ rfl; (with_reducible repeat (first | refine blk_drewN ?_ _ | refine blk_drew ?_ | refine blk_alloc ?_ _)); exact BK325.out⟩
              have n2_ : Aside0 (Below w.heap.size w (((((((((w20.setCell ⟨gb325, 0, none⟩ (.int .i64 t315)).setCell ⟨gb325, 1, none⟩ (.int .i64 t316)).setCell ⟨gb325, 2, none⟩ (.int .i64 t317)).setCell ⟨gb325, 3, none⟩ (.bool t318)).setCell ⟨gb325, 4, none⟩ (.int .i64 t319)).setCell ⟨gb325, 5, none⟩ (.string t320)).setCell ⟨gb325, 6, none⟩ (.bool t321)).setCell ⟨gb325, 7, none⟩ (.int .i64 t322)).setCell ⟨gb325, 8, none⟩ (.string t323))) := ⟨by repeat (first | (with_reducible first | exact HB.out | apply below_alloc | apply pw_below_drewN | apply below_drew1 | refine below_set ?_ GE325.out) | exact HB.out)⟩
              (try clear HO_8)
              (try clear BK325)
              (try clear HB)
              generalize (((((((((w20.setCell ⟨gb325, 0, none⟩ (.int .i64 t315)).setCell ⟨gb325, 1, none⟩ (.int .i64 t316)).setCell ⟨gb325, 2, none⟩ (.int .i64 t317)).setCell ⟨gb325, 3, none⟩ (.bool t318)).setCell ⟨gb325, 4, none⟩ (.int .i64 t319)).setCell ⟨gb325, 5, none⟩ (.string t320)).setCell ⟨gb325, 6, none⟩ (.bool t321)).setCell ⟨gb325, 7, none⟩ (.int .i64 t322)).setCell ⟨gb325, 8, none⟩ (.string t323)) = w22 at n0_ n1_ n2_ ⊢
              have HO_8 := n0_
              have BK325 := n1_
              have HB := n2_
              clear n0_ n1_ n2_
              have n0_ := Aside0.mk (Kd.R_drew HO_8.out)
              have n1_ := Aside0.mk (blk_drew BK325.out)
              have n2_ := Aside0.mk (below_drew1 HB.out)
              clear HO_8
              clear BK325
              clear HB
              have HO_8 := n0_
              have BK325 := n1_
              have HB := n2_
              clear n0_ n1_ n2_
              have p326 : 0 ≤ (x9_1 : Int) := of_decide_eq_true (by with_reducible assumption)
              have q326 : x9_1 < (l0.length : Int) := of_decide_eq_true (by with_reducible assumption)
              obtain ⟨ad326, A326_0, c326_0, e326, hx326_0, hl326_0, hi326_0⟩ := at_L7 HR0.out x9_1 p326 q326
              have hw326_0 := hx326_0
              cases e326
              replace hx326_0 := pw_cell_below HB.out hx326_0
              have HR326_0 := Aside0.mk hi326_0
              have HC326_0 := Aside0.mk hl326_0
              clear hi326_0 hl326_0
              replace p326 := eq_true p326
              replace q326 := eq_true q326
              have p327 : 0 ≤ (a1 : Int) := of_decide_eq_true (by with_reducible assumption)
              have q327 : a1 < ((rd_L7 l0 x9_1).length : Int) := of_decide_eq_true (by with_reducible assumption)
              obtain ⟨ad327, e327, hx327_0, hx327_1, hx327_2⟩ := at_T37 HR326_0.out a1 p327 q327
              have hw327_2 := hx327_2
              have hw327_1 := hx327_1
              have hw327_0 := hx327_0
              cases e327
              replace hx327_0 := pw_cell_below HB.out hx327_0
              replace hx327_1 := pw_cell_below HB.out hx327_1
              replace hx327_2 := pw_cell_below HB.out hx327_2
              replace p327 := eq_true p327
              replace q327 := eq_true q327
              obtain ⟨Ao24, co24, eo24⟩ := Kd.R_slice HO_8.out
              (first | subst eo24 | (injection eo24 with f1_ f2_ f3_; have f4_ := f1_.symm; have f5_ := f3_.symm; clear f1_ f2_ f3_; subst f4_; subst f5_))
              refine start_ (n := 12) (S := fun w' => w'.cell? ⟨gb325, 0, none⟩ = some (.int .i64 t315) ∧ w'.cell? ⟨gb325, 1, none⟩ = some (.int .i64 t316) ∧ w'.cell? ⟨gb325, 2, none⟩ = some (.int .i64 t317) ∧ w'.cell? ⟨gb325, 3, none⟩ = some (.bool t318) ∧ w'.cell? ⟨gb325, 4, none⟩ = some (.int .i64 t319) ∧ w'.cell? ⟨gb325, 5, none⟩ = some (.string t320) ∧ w'.cell? ⟨gb325, 6, none⟩ = some (.bool t321) ∧ w'.cell? ⟨gb325, 7, none⟩ = some (.int .i64 t322) ∧ w'.cell? ⟨gb325, 8, none⟩ = some (.string t323) ∧ w'.cell? (ad326.add (x9_1).toNat) = some (.slice (some ad327) (rd_L7 l0 x9_1).length c326_0) ∧ w'.cell? (ad327.add ((a1).toNat * 3)) = some (.bool ((rd_T37 (rd_L7 l0 x9_1) a1).f0)) ∧ w'.cell? ⟨(ad327.add ((a1).toNat * 3)).block, (ad327.add ((a1).toNat * 3)).off + 1, none⟩ = some (.int .i64 ((rd_T37 (rd_L7 l0 x9_1) a1).f1)) ∧ w'.cell? ⟨(ad327.add ((a1).toNat * 3)).block, (ad327.add ((a1).toNat * 3)).off + 2, none⟩ = some (.string ((rd_T37 (rd_L7 l0 x9_1) a1).f2))) (ds := []) #[false, false, false, false, false, false, false, false, false, false, false, false] (by kernel_rfl) rfl rfl ⟨(blk_cell BK325.out 0).trans rfl, (blk_cell BK325.out 1).trans rfl, (blk_cell BK325.out 2).trans rfl, (blk_cell BK325.out 3).trans rfl, (blk_cell BK325.out 4).trans rfl, (blk_cell BK325.out 5).trans rfl, (blk_cell BK325.out 6).trans rfl, (blk_cell BK325.out 7).trans rfl, (blk_cell BK325.out 8).trans rfl, (pw_cell_below HB.out hw326_0), (pw_cell_below HB.out hw327_0), (pw_cell_below HB.out hw327_1), (pw_cell_below HB.out hw327_2)⟩ (fun hHeld => ?_); refine with_tabW tithebarnref24_By.tab10 tithebarnref24_By.bits10 (fun HT_ HW_ => ?_)
              generalize w22.drew = w23 at HO_8 BK325 HB HR326_0 hx326_0 hx327_0 hx327_1 hx327_2 hHeld ⊢
              refine pure_ (i := 0) (N := some 42) (v := ?_) (a' := ?_) #[true, false, false, false, false, false, false, false, false, false, false, false] rfl rfl (any_of HT_.out (by kernel_rfl)) (fun _ _ _ h => h) (Or.inl ⟨by rfl, ?_⟩) ?_ ?_
              rotate_left
              ·intro w'
               go_simp
               with_reducible rfl
              rotate_left
              ·simp only [Act.put, List.setIfInBounds_toArray, List.set_cons_zero, List.set_cons_succ, i64_w, i32_w]
               rfl
              refine pure_ (i := 1) (N := some 43) (v := ?_) (a' := ?_) #[true, true, false, false, false, false, false, false, false, false, false, false] rfl rfl (any_of HT_.out (by kernel_rfl)) (fun _ _ _ h => h) (Or.inl ⟨by rfl, ?_⟩) ?_ ?_
              rotate_left
              ·intro w'
               go_simp
               with_reducible rfl
              rotate_left
              ·simp only [Act.put, List.setIfInBounds_toArray, List.set_cons_zero, List.set_cons_succ, i64_w, i32_w]
               rfl
              refine pure_ (i := 2) (N := some 44) (v := ?_) (a' := ?_) #[true, true, true, false, false, false, false, false, false, false, false, false] rfl rfl (any_of HT_.out (by kernel_rfl)) (fun _ _ _ h => h) (Or.inl ⟨by rfl, ?_⟩) ?_ ?_
              rotate_left
              ·intro w'
               go_simp
               with_reducible rfl
              rotate_left
              ·simp only [Act.put, List.setIfInBounds_toArray, List.set_cons_zero, List.set_cons_succ, i64_w, i32_w]
               rfl
              refine pure_ (i := 3) (N := some 45) (v := ?_) (a' := ?_) #[true, true, true, true, false, false, false, false, false, false, false, false] rfl rfl (any_of HT_.out (by kernel_rfl)) (fun _ _ _ h => h) (Or.inl ⟨by rfl, ?_⟩) ?_ ?_
              rotate_left
              ·intro w'
               go_simp
               with_reducible rfl
              rotate_left
              ·simp only [Act.put, List.setIfInBounds_toArray, List.set_cons_zero, List.set_cons_succ, i64_w, i32_w]
               rfl
              refine pure_ (i := 5) (N := some 47) (v := ?_) (a' := ?_) #[true, true, true, true, false, true, false, false, false, false, false, false] rfl rfl (any_of HT_.out (by kernel_rfl)) (fun _ _ _ h => h) (Or.inl ⟨by rfl, ?_⟩) ?_ ?_
              rotate_left
              ·intro w'
               go_simp
               with_reducible rfl
              rotate_left
              ·simp only [Act.put, List.setIfInBounds_toArray, List.set_cons_zero, List.set_cons_succ, i64_w, i32_w]
               rfl
              refine take_ (i := 4) (N := some 46) (v := ?_) (a' := ?_) #[true, true, true, true, true, true, false, false, false, false, false, false] rfl rfl (take_ofW HT_.out HW_.out (by kernel_rfl)) (fun _ _ _ h => h) (Or.inl ⟨by rfl, ?_⟩) hHeld ?_ ?_
              rotate_left
              ·rintro w' ⟨s0, s1, s2, s3, s4, s5, s6, s7, s8, s9, s10, s11, s12⟩
               go_simp
               with_reducible rfl
              rotate_left
              ·simp only [Act.put, List.setIfInBounds_toArray, List.set_cons_zero, List.set_cons_succ, i64_w, i32_w]
               rfl
              refine pure_ (i := 6) (N := some 48) (v := ?_) (a' := ?_) #[true, true, true, true, true, true, true, false, false, false, false, false] rfl rfl (any_of HT_.out (by kernel_rfl)) (fun _ _ _ h => h) (Or.inl ⟨by rfl, ?_⟩) ?_ ?_
              rotate_left
              ·intro w'
               go_simp
               with_reducible rfl
              rotate_left
              ·simp only [Act.put, List.setIfInBounds_toArray, List.set_cons_zero, List.set_cons_succ, i64_w, i32_w]
               rfl
              refine take_ (i := 7) (N := some 49) (v := ?_) (a' := ?_) #[true, true, true, true, true, true, true, true, false, false, false, false] rfl rfl (take_ofW HT_.out HW_.out (by kernel_rfl)) (fun _ _ _ h => h) (Or.inl ⟨by rfl, ?_⟩) hHeld ?_ ?_
              rotate_left
              ·rintro w' ⟨s0, s1, s2, s3, s4, s5, s6, s7, s8, s9, s10, s11, s12⟩
               go_simp
               with_reducible rfl
              rotate_left
              ·simp only [Act.put, List.setIfInBounds_toArray, List.set_cons_zero, List.set_cons_succ, i64_w, i32_w]
               rfl
              refine take_ (i := 8) (N := some 50) (v := ?_) (a' := ?_) #[true, true, true, true, true, true, true, true, true, false, false, false] rfl rfl (take_ofW HT_.out HW_.out (by kernel_rfl)) (fun _ _ _ h => h) (Or.inl ⟨by rfl, ?_⟩) hHeld ?_ ?_
              rotate_left
              ·rintro w' ⟨s0, s1, s2, s3, s4, s5, s6, s7, s8, s9, s10, s11, s12⟩
               go_simp
               with_reducible rfl
              rotate_left
              ·simp only [Act.put, List.setIfInBounds_toArray, List.set_cons_zero, List.set_cons_succ, i64_w, i32_w]
               rfl
              refine pure_ (i := 9) (N := some 51) (v := ?_) (a' := ?_) #[true, true, true, true, true, true, true, true, true, true, false, false] rfl rfl (any_of HT_.out (by kernel_rfl)) (fun _ _ _ h => h) (Or.inl ⟨by rfl, ?_⟩) ?_ ?_
              rotate_left
              ·intro w'
               go_simp
               with_reducible rfl
              rotate_left
              ·simp only [Act.put, List.setIfInBounds_toArray, List.set_cons_zero, List.set_cons_succ, i64_w, i32_w]
               rfl
              refine one_ (i := 10) (N := some 52) #[true, true, true, true, true, true, true, true, true, true, true, false] rfl rfl (one_of HT_.out (by kernel_rfl)) (by decide) (fun K hK => ?_)
              refine goes_ Try.func59 (by kernel_rfl) rfl #[.slice Ao24 x8_1.length co24, .agg #[.bool ((rd_T37 (rd_L7 l0 x9_1) a1).f0), .int .i64 ((rd_T37 (rd_L7 l0 x9_1) a1).f1), .string ((rd_T37 (rd_L7 l0 x9_1) a1).f2), .int .i64 t315, .int .i64 t316, .int .i64 t317, .bool t318, .int .i64 t319, .string t320, .bool t321, .int .i64 t322, .string t323]] (by rfl) rfl rfl (by (try simp only [List.map_toArray, List.map_cons, List.map_nil]); first | done | rfl | (simp only [List.length_drop, List.length_take]; rfl)) ?_
              with_reducible refine (tithebarnref24_add.calls kj4 _ _ x8_1 ((rd_T37 (rd_L7 l0 x9_1) a1).f0) ((rd_T37 (rd_L7 l0 x9_1) a1).f1) ((rd_T37 (rd_L7 l0 x9_1) a1).f2) t315 t316 t317 t318 t319 t320 t321 t322 t323 t328 _ ?side1 ?side2 A17.out).mono ?_
              (case side1 => repeat (first | exact (Kd.R_reads' HO_8.out).2.2 | (with_reducible refine Kd.C_alloc ?_ _) | (with_reducible refine Kd.C_drewN ?_ _) | (with_reducible refine Kd.C_drew ?_)))
              (case side2 => exact (Kd.R_reads' HO_8.out).2.1)
              rintro e w25 ⟨v329, rfl, ho0, hb⟩
              refine ⟨_, rfl, ?_⟩
              have n0_ := Aside0.mk (Kd.R_elder' (by (with_reducible repeat (first | apply Kd.R_alloc | apply Kd.R_drewN | apply Kd.R_drew)); exact HO_8.out) (Kd.R_base ho0) hb)
              have n1_ := Aside0.mk (Kd.R_lower (Kd.R_new' ho0 (Kd.R_lt (by (with_reducible repeat (first | apply Kd.R_alloc | apply Kd.R_drewN | apply Kd.R_drew)); exact HO_8.out))) (below_size (by with_reducible repeat first | exact HB.out | apply below_alloc | apply pw_below_drewN | apply below_drew1 | refine below_set ?_ GE325.out)))
              have n2_ := Aside0.mk (blk_below (g := gb325) (o := .cells #[.int .i64 t315, .int .i64 t316, .int .i64 t317, .bool t318, .int .i64 t319, .string t320, .bool t321, .int .i64 t322, .string t323] 47 (0, 0)) (by (with_reducible repeat (first | refine blk_drewN ?_ _ | refine blk_drew ?_ | refine blk_alloc ?_ _)); exact BK325.out) hb)
              have n3_ := Aside0.mk (below_step (by with_reducible repeat first | exact HB.out | apply below_alloc | apply pw_below_drewN | apply below_drew1 | refine below_set ?_ GE325.out) hb)
              clear HO_8
              clear BK325
              clear HB
              have HO_8 := n0_
              have HO330 := n1_
              have BK325 := n2_
              have HB := n3_
              clear n0_ n1_ n2_ n3_
              (try clear hb)
              (try clear hb2)
              (try clear hk)
              (try clear hi)
              (try clear ho0)
              refine hK.out _ _ ⟨(blk_cell BK325.out 0).trans rfl, (blk_cell BK325.out 1).trans rfl, (blk_cell BK325.out 2).trans rfl, (blk_cell BK325.out 3).trans rfl, (blk_cell BK325.out 4).trans rfl, (blk_cell BK325.out 5).trans rfl, (blk_cell BK325.out 6).trans rfl, (blk_cell BK325.out 7).trans rfl, (blk_cell BK325.out 8).trans rfl, (pw_cell_below HB.out hw326_0), (pw_cell_below HB.out hw327_0), (pw_cell_below HB.out hw327_1), (pw_cell_below HB.out hw327_2)⟩ (fun hHeld => ?_)
              clear hK K
              refine norm_ (a' := ?_) ?_ ?_
              rotate_left
              ·show Act.put _ (some 52) _ = _
               simp only [Act.put, List.setIfInBounds_toArray, List.set_cons_zero, List.set_cons_succ, i64_w, i32_w]
               rfl
              refine pure_ (i := 11) (N := some 8) (v := ?_) (a' := ?_) #[true, true, true, true, true, true, true, true, true, true, true, true] rfl rfl (any_of HT_.out (by kernel_rfl)) (fun _ _ _ h => h) (Or.inl ⟨by rfl, ?_⟩) ?_ ?_
              rotate_left
              ·intro w'
               go_simp
               with_reducible rfl
              rotate_left
              ·simp only [Act.put, List.setIfInBounds_toArray, List.set_cons_zero, List.set_cons_succ, i64_w, i32_w]
               rfl
              refine done_ (done_of HT_.out (by kernel_rfl)) ?_
              try go_wp2
              go_roundg kj4
              case measure => have := HK1.out; have := HJ4.out; omega
              case rel => exact ⟨(t328), (wrap64 (x9_1 + 1)), (by first | rfl | (simp; done) | (simp [*]; done)), H', ⟨by have := HK1.out; have := HJ4.out; omega⟩, ⟨by (with_reducible repeat (first | apply Kd.R_alloc | apply Kd.R_drewN | apply Kd.R_drew)); exact Kd.R_mono HO330.out (fun _ hk => trivial)⟩, ⟨by repeat (first | (with_reducible first | exact HB.out | apply below_alloc | apply pw_below_drewN | apply below_drew1 | refine below_set ?_ GE325.out) | exact HB.out)⟩⟩
             ·rw [if_neg c16] at H
              exact absurd H (by simp)
            ·rw [if_neg c15] at H
             exact absurd H (by simp)
           ·rw [if_neg c14] at H
            exact absurd H (by simp)
          ·rw [if_neg c13] at H
           have c13b0 : (t324 == 0) = false := beq_eq_false_iff_ne.mpr c13
           have c13b1 : (t324 != 0) = true := bne_iff_ne.mpr c13
           simp only [Option.some.injEq, Prod.mk.injEq] at H
           obtain ⟨rfl, rfl⟩ := H
           have q26 : ((wrap64 (x9_1 + 1)) : Int) ≤ ((l0.length : Int) : Int) := of_decide_eq_true (by with_reducible assumption)
           obtain ⟨i026, hi026, _, hsz26, _⟩ := info_parts info39
           have hroom26 : l0.length ≤ c0 := HC0.out
           have hC26 : Kd.C (Kd.slice 37 k37) _ A0 l0.length l0 := HR0.out
           have ql26 : (x9_1 : Int) ≤ ((wrap64 (x9_1 + 1)) : Int) := of_decide_eq_true (by with_reducible assumption)
           have q026 : (0 : Int) ≤ (x9_1 : Int) := of_decide_eq_true (by with_reducible assumption)
           have hcut26 := cut_mid (P := Try.prog) 51 39 .i64 .i64 Try.underlying51 hi026 1 hsz26 A0 l0.length c0 x9_1 (wrap64 (x9_1 + 1)) q026 ql26 q26 hroom26
           have hr26 := Kd.C_mid (lo := (x9_1 : Int).toNat) (hi := ((wrap64 (x9_1 + 1)) : Int).toNat) (c := c0) hC26 (by omega) (by omega) hroom26
           obtain ⟨A26, hA26⟩ : ∃ A1, A1 = (if c0 = (x9_1 : Int).toNat then A0 else (A0 : Option Addr).map (·.add ((x9_1 : Int).toNat * 1))) := ⟨_, rfl⟩
           obtain ⟨c26, hc26⟩ : ∃ c1, c1 = c0 - (x9_1 : Int).toNat := ⟨_, rfl⟩
           have hy26 : y311.length = ((wrap64 (x9_1 + 1)) : Int).toNat - (x9_1 : Int).toNat := (by rw [Ny311.out, List.length_drop, List.length_take] <;> omega)
           rw [show ((l0).take ((wrap64 (x9_1 + 1)) : Int).toNat).drop (x9_1 : Int).toNat = y311 from Ny311.out.symm] at hr26
           replace hr26 : Kd.C (Kd.slice 37 k37) _ A26 y311.length y311 := (by rw [hA26]; exact hr26)
           rw [← hy26, ← hA26, ← hc26] at hcut26
           have HR314 := Aside0.mk hr26
           have HC314 := Aside0.mk (show y311.length ≤ c26 from by rw [hy26, hc26]; exact Nat.sub_le_sub_right (Nat.le_trans (by omega) hroom26) _)
           clear hr26 hC26 hroom26 hi026 hsz26 hc26
           have KY26 := Aside0.mk hy26
           have KA26 := Aside0.mk hA26
           clear hy26 hA26
           replace q26 := eq_true q26
           go_wp2_with (first | ((with_reducible refine gate_callee (f := 58) rfl ?_); refine goesL_ (some 36) rfl rfl Try.func58 (by kernel_rfl) rfl #[.slice A26 y311.length c26, .int .i64 a2] rfl (by (try simp only [List.map_toArray, List.map_cons, List.map_nil]); first | done | rfl | (simp only [List.length_drop, List.length_take]; rfl)) ?_; (with_reducible refine (tithebarnref18_Fold.calls kj4 _ _ y311 a2 t315 t316 t317 t318 t319 t320 t321 t322 t323 t324 _ ?side1 ?side2 A12.out).mono ?_); (case side1 => repeat (first | exact (Kd.C_below HR314.out HB.out) | (with_reducible refine Kd.C_alloc ?_ _) | (with_reducible refine Kd.C_drewN ?_ _) | (with_reducible refine Kd.C_drew ?_))); (case side2 => exact HC314.out); rintro e w27 ⟨rfl, hb⟩; refine ⟨_, rfl, ?_⟩; have n0_ := Aside0.mk (Kd.R_below (by (with_reducible repeat (first | apply Kd.R_alloc | apply Kd.R_drewN | apply Kd.R_drew)); exact HO_8.out) hb); have n1_ := Aside0.mk (below_step (by with_reducible repeat first | exact HB.out | apply below_alloc | apply pw_below_drewN | apply below_drew1) hb); clear HO_8; clear HB; have HO_8 := n0_; have HB := n1_; clear n0_ n1_; (try clear hb); (try clear hb2); (try clear hk); (try clear hi)) | ((with_reducible refine gate_dst (N := 10) rfl ?_); (try (refine gate_guard (by rfl) ?_; dsimp only)); refine box_event ?hg (N := 10) ?hd (cs := #[.int .i64 0, .int .i64 0, .int .i64 0, .bool false, .int .i64 0, .string (⟨#[]⟩ : ByteArray), .bool false, .int .i64 0, .string (⟨#[]⟩ : ByteArray)]) (t := 47) ?hr ?_; (case hd => rfl); (case hg => rfl); (case hr => first | (go_simp; done) | (go_simp; rfl)); intro gb325 hg w28 hbox hb; have n0_ := Aside0.mk (Kd.R_below (by (with_reducible repeat (first | apply Kd.R_alloc | apply Kd.R_drewN | apply Kd.R_drew)); exact HO_8.out) hb); have n1_ := Aside0.mk (below_step (by with_reducible repeat first | exact HB.out | apply below_alloc | apply pw_below_drewN | apply below_drew1) hb); have n2_ := Aside0.mk (hbox); have n3_ := Aside0.mk ((by rw [hg]; exact (below_size (by with_reducible repeat first | exact HB.out | apply below_alloc | apply pw_below_drewN | apply below_drew1)) : w.heap.size ≤ gb325)); have n4_ := Aside0.mk ((by rw [hg]; exact (below_size (by with_reducible repeat first | exact HB.out | apply below_alloc | apply pw_below_drewN | apply below_drew1)) : w.heap.size ≤ gb325)); clear HO_8; clear HB; have HO_8 := n0_; have HB := n1_; have BK325 := n2_; have GW325 := n3_; have GE325 := n4_; clear n0_ n1_ n2_ n3_ n4_; clear hb hbox hg; obtain ⟨hcz29_0, hcz29_1, hcz29_2, hcz29_3, hcz29_4, hcz29_5, hcz29_6, hcz29_7, hcz29_8⟩ := bc9 BK325.out; obtain ⟨hfz29_0, hfz29_1, hfz29_2, hfz29_3, hfz29_4, hfz29_5, hfz29_6, hfz29_7, hfz29_8⟩ := bf9 BK325.out))
           go_ret2
           exact ⟨_, by first | rfl | (simp [errW_none, errW_some] <;> rfl) | (simp [*, errW_none, errW_some] <;> rfl), by first | exact Kd.R_nil _ _ _ _ _ | exact Kd.N_nil _ _ _ _ _ | exact Kd.V_nil _ _ _ _ _ | exact Kd.Q_nil _ _ _ _ _ | exact Kd.S_nil _ _ _ _ _, by repeat (first | (with_reducible first | exact HB.out | apply below_alloc | apply pw_below_drewN | apply below_drew1 | refine below_set ?_ GE325.out) | exact HB.out)⟩
         ·rw [if_neg c11] at H
          exact absurd H (by simp)
        ·rw [if_neg c10] at H
         exact absurd H (by simp)
       ·rw [if_neg c9] at H
        exact absurd H (by simp)
   ·rw [if_neg c4] at H
    have c4b0 : decide (x9_1 < (l0.length : Int)) = false := decide_eq_false c4
    clear c4
    simp only [Option.some.injEq, Prod.mk.injEq] at H
    obtain ⟨rfl, rfl⟩ := H
    go_wp2
    go_ret2
    exact ⟨_, by first | rfl | (simp [errW_none, errW_some] <;> rfl) | (simp [*, errW_none, errW_some] <;> rfl), by (with_reducible repeat (first | apply Kd.R_alloc | apply Kd.R_drewN | apply Kd.R_drew)); exact HO_8.out, by repeat (first | (with_reducible first | exact HB.out | apply below_alloc | apply pw_below_drewN | apply below_drew1) | exact HB.out)⟩

end Go.Proofs.Ythlelhndmnkmjaa.Pr
