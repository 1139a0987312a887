-- printed by xprint.py (this seat's own program, over the kit's print.py); not trusted: Lean checks it
import Derived.Test.YtknkncidlfobiaaPr0
import Derived.Test.YtknkncidlfobiaaPrf20
import Derived.Test.YtknkncidlfobiaaPrf22
import Derived.Test.YtknkncidlfobiaaPrf15
import Derived.Test.YtknkncidlfobiaaPrf24
namespace Go.Proofs.Ytknkncidlfobiaa.Pr
open Go.RowKit Go.Proofs.YtknkncidlfobiaaW.PrintWords Go.Proofs.YtknkncidlfobiaaW.PrintLast Go.Proofs.YtknkncidlfobiaaW.PrintMore
attribute [local go_sem] max2_int min2_int max_two min_two max_three min_three max_four min_four   -- for this text's walks alone
set_option linter.unusedVariables false
set_option linter.unusedSimpArgs false

/-! ### tithebarnlaw02_KindsCols: function 8 -/
mutual
def tithebarnlaw02_KindsCols.j0 : Nat → List (S42) → List (S23) → Bool → Option (Bool)
  | 0, _, _, _ => none
  | k + 1, x0, x1, x21 => if x21 = true then ((tithebarnlaw02_lives_c.f).bind fun t218 => (some t218)) else (tithebarnlaw02_KindsCols.l0 k x0 x1 0 0)
def tithebarnlaw02_KindsCols.l0 : Nat → List (S42) → List (S23) → Int → Int → Option (Bool)
  | 0, _, _, _, _ => none
  | k + 1, x0, x1, x5, x6 => if x6 < (x0.length : Int) then (if 0 ≤ x6 then (if x6 < (x1.length : Int) then ((kinds_Fits_c.f (([(⟨1, false⟩ : S42), (⟨(rd_T42 x0 x6).f0, (rd_T42 x0 x6).f1⟩ : S42)] : List (S42))) (([(⟨false, 1, (⟨#[]⟩ : ByteArray)⟩ : S23), (⟨(rd_T23 x1 x6).f0, (rd_T23 x1 x6).f1, (rd_T23 x1 x6).f2⟩ : S23)] : List (S23)))).bind fun t227 => (if t227 = 0 then (tithebarnlaw02_KindsCols.l0 k x0 x1 x5 (wrap64 (x6 + 1))) else (tithebarnlaw02_KindsCols.l0 k x0 x1 t227 (wrap64 (x6 + 1))))) else (none)) else (none)) else ((kinds_Fits_c.f x0 x1).bind fun t228 => (if t228 = x5 then (if 0 < (x1.length : Int) then ((kinds_Key_c.f x0 ((rd_T23 x1 0).f0) ((rd_T23 x1 0).f1) ((rd_T23 x1 0).f2)).bind fun t230 => (if t230 = 0 then (some true) else (some (x5 == 6)))) else (none)) else (some false)))
end
def tithebarnlaw02_KindsCols.f (k : Nat) (l0 : List (S42)) (l1 : List (S23)) : Option (Bool) := (tithebarnlaw02_lives_c.f).bind fun t216 => (if t216 = true then ((kinds_Right.f l0).bind fun t217 => (if t217 = true then (tithebarnlaw02_KindsCols.j0 k l0 l1 ((l0.length : Int) != (l1.length : Int))) else (tithebarnlaw02_KindsCols.j0 k l0 l1 true))) else (tithebarnlaw02_KindsCols.j0 k l0 l1 true))
theorem tithebarnlaw02_KindsCols.mono_l : ∀ k, (∀ y0 y1 y2, LeO (tithebarnlaw02_KindsCols.j0 k y0 y1 y2) (tithebarnlaw02_KindsCols.j0 (k + 1) y0 y1 y2)) ∧ (∀ y0 y1 y2 y3, LeO (tithebarnlaw02_KindsCols.l0 k y0 y1 y2 y3) (tithebarnlaw02_KindsCols.l0 (k + 1) y0 y1 y2 y3))
  | 0 => ⟨fun _ _ _ r h => by simp [tithebarnlaw02_KindsCols.j0] at h, fun _ _ _ _ r h => by simp [tithebarnlaw02_KindsCols.l0] at h⟩
  | k + 1 => by
    obtain ⟨ih0, ih1⟩ := tithebarnlaw02_KindsCols.mono_l k
    refine ⟨?_, ?_⟩
    · intro y0 y1 y2
      unfold tithebarnlaw02_KindsCols.j0
      repeat' first
      | (with_reducible exact ih0 _ _ _)
      | (with_reducible exact ih1 _ _ _ _)
      | (with_reducible exact LeO.refl _)
      | (with_reducible exact LeO.none _)
      | (with_reducible refine LeO.ite ?_ ?_)
      | (with_reducible refine LeO.bind ?_ (fun _ => ?_))
      | exact ih0 _ _ _
      | exact ih1 _ _ _ _
      | exact LeO.none _
      | refine LeO.ite ?_ ?_
      | refine LeO.bind ?_ (fun _ => ?_)
    · intro y0 y1 y2 y3
      unfold tithebarnlaw02_KindsCols.l0
      repeat' first
      | (with_reducible exact ih0 _ _ _)
      | (with_reducible exact ih1 _ _ _ _)
      | (with_reducible exact LeO.refl _)
      | (with_reducible exact LeO.none _)
      | (with_reducible refine LeO.ite ?_ ?_)
      | (with_reducible refine LeO.bind ?_ (fun _ => ?_))
      | exact ih0 _ _ _
      | exact ih1 _ _ _ _
      | exact LeO.none _
      | refine LeO.ite ?_ ?_
      | refine LeO.bind ?_ (fun _ => ?_)
theorem tithebarnlaw02_KindsCols.mono : ∀ a0 a1 k, LeO (tithebarnlaw02_KindsCols.f k a0 a1) (tithebarnlaw02_KindsCols.f (k + 1) a0 a1) := by
  intro a0 a1 k
  obtain ⟨ih0, ih1⟩ := tithebarnlaw02_KindsCols.mono_l k
  unfold tithebarnlaw02_KindsCols.f
  repeat' first
      | (with_reducible exact ih0 _ _ _)
      | (with_reducible exact ih1 _ _ _ _)
      | (with_reducible exact LeO.refl _)
      | (with_reducible exact LeO.none _)
      | (with_reducible refine LeO.ite ?_ ?_)
      | (with_reducible refine LeO.bind ?_ (fun _ => ?_))
      | exact ih0 _ _ _
      | exact ih1 _ _ _ _
      | exact LeO.none _
      | refine LeO.ite ?_ ?_
      | refine LeO.bind ?_ (fun _ => ?_)
def tithebarnlaw02_KindsCols.T7 : Bool × List (List Nat × List Nat) := (true, [([], []), ([], []), ([], []), ([1, 2], [1, 2]), ([3], [3]), ([0, 4], [0, 4]), ([], []), ([], []), ([], []), ([7, 8], [7, 8]), ([9], [9]), ([6, 10], [6, 10]), ([5, 11], [5, 11]), ([12, 12, 0, 1, 2, 3, 4, 5, 6, 7, 8, 9, 10, 11, 12], [12])])
def tithebarnlaw02_KindsCols.B7 : List Nat := [0, 0, 0, 6, 14, 31, 0, 0, 0, 384, 896, 1984, 4095, 8191]
theorem tithebarnlaw02_KindsCols.tab7 : rtab .any (opsOf Try.f8 7) = tithebarnlaw02_KindsCols.T7 := by kernel_rfl
theorem tithebarnlaw02_KindsCols.bits7 : waitsOk tithebarnlaw02_KindsCols.T7.2 tithebarnlaw02_KindsCols.B7 = true := by kernel_rfl
set_option maxHeartbeats 8000000 in
set_option maxRecDepth 100000 in
theorem tithebarnlaw02_KindsCols.calls (k : Nat) (A0 : Option Addr) (c0 : Nat) (l0 : List (S42)) (A1 : Option Addr) (c1 : Nat) (l1 : List (S23)) (r : Bool) (w : World) (hr0 : Kd.C k42 w A0 l0.length l0) (hc0 : l0.length ≤ c0) (hr1 : Kd.C k23 w A1 l1.length l1) (hc1 : l1.length ≤ c1) (h : tithebarnlaw02_KindsCols.f k l0 l1 = some r) :
    Calls Try.prog 8 #[.slice A0 l0.length c0, .slice A1 l1.length c1] w fun e w' => e = .returned (.bool r) ∧ Below w.heap.size w w' := by
  have hu42 := Try.underlying42
  have hu23 := Try.underlying23
  have HR0 := Aside0.mk hr0
  have HC0 := Aside0.mk hc0
  clear hr0 hc0
  have HR1 := Aside0.mk hr1
  have HC1 := Aside0.mk hc1
  clear hr1 hc1
  have HB := Aside0.mk (Below.refl w.heap.size w)
  have H : ((tithebarnlaw02_lives_c.f).bind fun t216 => (if t216 = true then ((kinds_Right.f l0).bind fun t217 => (if t217 = true then (tithebarnlaw02_KindsCols.j0 k l0 l1 ((l0.length : Int) != (l1.length : Int))) else (tithebarnlaw02_KindsCols.j0 k l0 l1 true))) else (tithebarnlaw02_KindsCols.j0 k l0 l1 true))) = some r := h
  clear h
  have HC3 := Aside0.mk H
  clear H
  go_enter Try.func8, Try.ntmps8
  go_upto_region 1 with (fail)
  go_cut [21] (fun v21 wc => ∃ (kq : Nat) (x21_2 : Bool), v21 = .bool x21_2 ∧ Aside0 (tithebarnlaw02_KindsCols.j0 kq l0 l1 x21_2 = some r) ∧ Aside0 (kq ≤ k) ∧ Aside0 (Below w.heap.size w wc))
  case first =>
    have H := HC3.out
    clear HC3
    replace H := Option.bind_eq_some_iff.mp H
    obtain ⟨t216, A40, H⟩ := H
    replace H : (if t216 = true then ((kinds_Right.f l0).bind fun t217 => (if t217 = true then (tithebarnlaw02_KindsCols.j0 k l0 l1 ((l0.length : Int) != (l1.length : Int))) else (tithebarnlaw02_KindsCols.j0 k l0 l1 true))) else (tithebarnlaw02_KindsCols.j0 k l0 l1 true)) = some r := H
    have A4 := Aside0.mk A40
    clear A40
    by_cases c5 : t216 = true
    · subst c5
      have H1 : ((kinds_Right.f l0).bind fun t217 => (if t217 = true then (tithebarnlaw02_KindsCols.j0 k l0 l1 ((l0.length : Int) != (l1.length : Int))) else (tithebarnlaw02_KindsCols.j0 k l0 l1 true))) = some r := by rw [if_pos rfl] at H; exact H
      clear H
      have H := H1
      clear H1
      replace H := Option.bind_eq_some_iff.mp H
      obtain ⟨t217, A60, H⟩ := H
      replace H : (if t217 = true then (tithebarnlaw02_KindsCols.j0 k l0 l1 ((l0.length : Int) != (l1.length : Int))) else (tithebarnlaw02_KindsCols.j0 k l0 l1 true)) = some r := H
      have A6 := Aside0.mk A60
      clear A60
      by_cases c7 : t217 = true
      · subst c7
        have H1 : (tithebarnlaw02_KindsCols.j0 k l0 l1 ((l0.length : Int) != (l1.length : Int))) = some r := by rw [if_pos rfl] at H; exact H
        clear H
        have H := H1
        clear H1
        have H' := Aside0.mk H
        clear H
        go_wp2_with (first | ((with_reducible refine gate_callee (f := 15) rfl ?_); refine goesL_ (some 8) rfl rfl Try.func15 (by kernel_rfl) rfl #[] rfl (by (try simp only [List.map_toArray, List.map_cons, List.map_nil]); first | done | rfl | (simp only [List.length_drop, List.length_take]; rfl)) ?_; (with_reducible refine (tithebarnlaw02_lives_c.calls  true _ A4.out).mono ?_); rintro e w8 ⟨rfl, hb⟩; refine ⟨_, rfl, ?_⟩; have n0_ := Aside0.mk (below_step (by repeat (first | (with_reducible first | exact HB.out | apply below_alloc | apply pw_below_drewN | apply below_drew1) | exact HB.out)) hb); clear HB; have HB := n0_; clear n0_; (try clear hb); (try clear hb2); (try clear hk); (try clear hi)) | (go_at_call 20; (with_reducible refine (kinds_Right.calls _ _ l0 true _ ?side1 ?side2 A6.out).mono ?_); (case side1 => repeat (first | exact (Kd.C_below HR0.out HB.out) | (with_reducible refine Kd.C_alloc ?_ _) | (with_reducible refine Kd.C_drewN ?_ _) | (with_reducible refine Kd.C_drew ?_))); (case side2 => exact HC0.out); rintro e w9 ⟨rfl, hb⟩; have n0_ := Aside0.mk (below_step (by repeat (first | (with_reducible first | exact HB.out | apply below_alloc | apply pw_below_drewN | apply below_drew1) | exact HB.out)) hb); clear HB; have HB := n0_; clear n0_; (try clear hb); (try clear hb2); (try clear hk); (try clear hi)))
        go_meet
        case rel => exact ⟨_, (((l0.length : Int) != (l1.length : Int))), (by first | rfl | (simp; done) | (simp [*]; done)), H', ⟨by first | omega | exact Nat.le_refl _⟩, ⟨by repeat (first | (with_reducible first | exact HB.out | apply below_alloc | apply pw_below_drewN | apply below_drew1) | exact HB.out)⟩⟩
      · replace c7 := Bool.eq_false_iff.mpr c7
        subst c7
        have H1 : (tithebarnlaw02_KindsCols.j0 k l0 l1 true) = some r := by rw [if_neg (show ¬ (false = true) by decide)] at H; exact H
        clear H
        have H := H1
        clear H1
        have H' := Aside0.mk H
        clear H
        go_wp2_with (first | ((with_reducible refine gate_callee (f := 15) rfl ?_); refine goesL_ (some 8) rfl rfl Try.func15 (by kernel_rfl) rfl #[] rfl (by (try simp only [List.map_toArray, List.map_cons, List.map_nil]); first | done | rfl | (simp only [List.length_drop, List.length_take]; rfl)) ?_; (with_reducible refine (tithebarnlaw02_lives_c.calls  true _ A4.out).mono ?_); rintro e w10 ⟨rfl, hb⟩; refine ⟨_, rfl, ?_⟩; have n0_ := Aside0.mk (below_step (by repeat (first | (with_reducible first | exact HB.out | apply below_alloc | apply pw_below_drewN | apply below_drew1) | exact HB.out)) hb); clear HB; have HB := n0_; clear n0_; (try clear hb); (try clear hb2); (try clear hk); (try clear hi)) | (go_at_call 20; (with_reducible refine (kinds_Right.calls _ _ l0 false _ ?side1 ?side2 A6.out).mono ?_); (case side1 => repeat (first | exact (Kd.C_below HR0.out HB.out) | (with_reducible refine Kd.C_alloc ?_ _) | (with_reducible refine Kd.C_drewN ?_ _) | (with_reducible refine Kd.C_drew ?_))); (case side2 => exact HC0.out); rintro e w11 ⟨rfl, hb⟩; have n0_ := Aside0.mk (below_step (by repeat (first | (with_reducible first | exact HB.out | apply below_alloc | apply pw_below_drewN | apply below_drew1) | exact HB.out)) hb); clear HB; have HB := n0_; clear n0_; (try clear hb); (try clear hb2); (try clear hk); (try clear hi)))
        go_meet
        case rel => exact ⟨_, (true), (by first | rfl | (simp; done) | (simp [*]; done)), H', ⟨by first | omega | exact Nat.le_refl _⟩, ⟨by repeat (first | (with_reducible first | exact HB.out | apply below_alloc | apply pw_below_drewN | apply below_drew1) | exact HB.out)⟩⟩
    · replace c5 := Bool.eq_false_iff.mpr c5
      subst c5
      have H1 : (tithebarnlaw02_KindsCols.j0 k l0 l1 true) = some r := by rw [if_neg (show ¬ (false = true) by decide)] at H; exact H
      clear H
      have H := H1
      clear H1
      have H' := Aside0.mk H
      clear H
      go_wp2_with (first | ((with_reducible refine gate_callee (f := 15) rfl ?_); refine goesL_ (some 8) rfl rfl Try.func15 (by kernel_rfl) rfl #[] rfl (by (try simp only [List.map_toArray, List.map_cons, List.map_nil]); first | done | rfl | (simp only [List.length_drop, List.length_take]; rfl)) ?_; (with_reducible refine (tithebarnlaw02_lives_c.calls  false _ A4.out).mono ?_); rintro e w12 ⟨rfl, hb⟩; refine ⟨_, rfl, ?_⟩; have n0_ := Aside0.mk (below_step (by repeat (first | (with_reducible first | exact HB.out | apply below_alloc | apply pw_below_drewN | apply below_drew1) | exact HB.out)) hb); clear HB; have HB := n0_; clear n0_; (try clear hb); (try clear hb2); (try clear hk); (try clear hi)))
      go_meet
      case rel => exact ⟨_, (true), (by first | rfl | (simp; done) | (simp [*]; done)), H', ⟨by first | omega | exact Nat.le_refl _⟩, ⟨by repeat (first | (with_reducible first | exact HB.out | apply below_alloc | apply pw_below_drewN | apply below_drew1) | exact HB.out)⟩⟩
  case rest =>
    clear HC3
    try clear c1
    try clear p2
    try clear c5
    try clear c7
    try clear c8
    obtain ⟨kq, x21_2, rfl, HA, HJ2, HB⟩ := hcut
    cases kq with
    | zero => exact absurd HA.out (by simp [tithebarnlaw02_KindsCols.j0])
    | succ kj2 =>
      have H := HA.out
      clear HA
      simp only [tithebarnlaw02_KindsCols.j0] at H
      by_cases c13 : x21_2 = true
      · subst c13
        have H1 : ((tithebarnlaw02_lives_c.f).bind fun t218 => (some t218)) = some r := by rw [if_pos rfl] at H; exact H
        clear H
        have H := H1
        clear H1
        replace H := Option.bind_eq_some_iff.mp H
        obtain ⟨t218, A140, H⟩ := H
        replace H : (some t218) = some r := H
        have A14 := Aside0.mk A140
        clear A140
        obtain rfl := Option.some.inj H
        go_wp2_with (first | ((with_reducible refine gate_callee (f := 15) rfl ?_); refine goesL_ (some 22) rfl rfl Try.func15 (by kernel_rfl) rfl #[] rfl (by (try simp only [List.map_toArray, List.map_cons, List.map_nil]); first | done | rfl | (simp only [List.length_drop, List.length_take]; rfl)) ?_; (with_reducible refine (tithebarnlaw02_lives_c.calls  t218 _ A14.out).mono ?_); rintro e w15 ⟨rfl, hb⟩; refine ⟨_, rfl, ?_⟩; have n0_ := Aside0.mk (below_step (by repeat (first | (with_reducible first | exact HB.out | apply below_alloc | apply pw_below_drewN | apply below_drew1) | exact HB.out)) hb); clear HB; have HB := n0_; clear n0_; (try clear hb); (try clear hb2); (try clear hk); (try clear hi)))
        go_ret
        exact ⟨by first | rfl | (simp [errW_none, errW_some] <;> rfl) | (simp [*, errW_none, errW_some] <;> rfl), by repeat (first | (with_reducible first | exact HB.out | apply below_alloc | apply pw_below_drewN | apply below_drew1) | exact HB.out)⟩
      · replace c13 := Bool.eq_false_iff.mpr c13
        subst c13
        have H1 : (tithebarnlaw02_KindsCols.l0 kj2 l0 l1 0 0) = some r := by rw [if_neg (show ¬ (false = true) by decide)] at H; exact H
        clear H
        have H := H1
        clear H1
        have H' := Aside0.mk H
        clear H
        go_wp2
        go_loopg [5, 6] kj2 (fun kq v5 v6 w' => ∃ (x5_2 : Int) (x6_2 : Int), v5 = .int .i64 x5_2 ∧ v6 = .int .i64 x6_2 ∧ Aside0 (tithebarnlaw02_KindsCols.l0 kq l0 l1 x5_2 x6_2 = some r) ∧ Aside0 (kq ≤ kj2) ∧ Aside0 (Below w.heap.size w w'))
        case atStart => exact ⟨(0), (0), (by first | rfl | (simp; done) | (simp [*]; done)), (by first | rfl | (simp; done) | (simp [*]; done)), H', ⟨Nat.le_refl _⟩, ⟨by repeat (first | (with_reducible first | exact HB.out | apply below_alloc | apply pw_below_drewN | apply below_drew1) | exact HB.out)⟩⟩
        case round =>
          clear H'
          try clear c1
          try clear p2
          try clear c5
          try clear c7
          try clear c8
          try clear c13
          try clear c15
          try clear p2
          obtain ⟨x5_2, x6_2, rfl, rfl, HA, HK2, HB⟩ := hrel
          cases gk with
          | zero => exact absurd HA.out (by simp [tithebarnlaw02_KindsCols.l0])
          | succ k2 =>
            have H := HA.out
            clear HA
            simp only [tithebarnlaw02_KindsCols.l0] at H
            by_cases c16 : x6_2 < (l0.length : Int)
            · rw [if_pos c16] at H
              have c16b0 : decide (x6_2 < (l0.length : Int)) = true := decide_eq_true c16
              clear c16
              by_cases c17 : 0 ≤ x6_2
              · rw [if_pos c17] at H
                have c17b0 : decide (0 ≤ x6_2) = true := decide_eq_true c17
                clear c17
                obtain ⟨y220, hy220⟩ : ∃ y_ : List (S42), y_ = (([(⟨1, false⟩ : S42), (⟨(rd_T42 l0 x6_2).f0, (rd_T42 l0 x6_2).f1⟩ : S42)] : List (S42))) := ⟨_, rfl⟩
                replace H : (if x6_2 < (l1.length : Int) then ((kinds_Fits_c.f y220 (([(⟨false, 1, (⟨#[]⟩ : ByteArray)⟩ : S23), (⟨(rd_T23 l1 x6_2).f0, (rd_T23 l1 x6_2).f1, (rd_T23 l1 x6_2).f2⟩ : S23)] : List (S23)))).bind fun t227 => (if t227 = 0 then (tithebarnlaw02_KindsCols.l0 k2 l0 l1 x5_2 (wrap64 (x6_2 + 1))) else (tithebarnlaw02_KindsCols.l0 k2 l0 l1 t227 (wrap64 (x6_2 + 1))))) else (none)) = some r := by first | (rw [hy220]; with_reducible exact H) | (have H2_ := (Option.bind_some _ _).symm.trans H; rw [hy220]; with_reducible exact H2_) | (have H2_ := (Option.bind_some _ _).symm.trans H; with_reducible exact H2_) | with_reducible exact H | (rw [hy220]; exact H) | exact H
                have Ny220 := Aside0.mk hy220
                clear hy220
                by_cases c18 : x6_2 < (l1.length : Int)
                · rw [if_pos c18] at H
                  have c18b0 : decide (x6_2 < (l1.length : Int)) = true := decide_eq_true c18
                  clear c18
                  obtain ⟨y224, hy224⟩ : ∃ y_ : List (S23), y_ = (([(⟨false, 1, (⟨#[]⟩ : ByteArray)⟩ : S23), (⟨(rd_T23 l1 x6_2).f0, (rd_T23 l1 x6_2).f1, (rd_T23 l1 x6_2).f2⟩ : S23)] : List (S23))) := ⟨_, rfl⟩
                  replace H : ((kinds_Fits_c.f y220 y224).bind fun t227 => (if t227 = 0 then (tithebarnlaw02_KindsCols.l0 k2 l0 l1 x5_2 (wrap64 (x6_2 + 1))) else (tithebarnlaw02_KindsCols.l0 k2 l0 l1 t227 (wrap64 (x6_2 + 1))))) = some r := by first | (rw [hy224]; with_reducible exact H) | (have H2_ := (Option.bind_some _ _).symm.trans H; rw [hy224]; with_reducible exact H2_) | (have H2_ := (Option.bind_some _ _).symm.trans H; with_reducible exact H2_) | with_reducible exact H | (rw [hy224]; exact H) | exact H
                  have Ny224 := Aside0.mk hy224
                  clear hy224
                  replace H := Option.bind_eq_some_iff.mp H
                  obtain ⟨t227, A190, H⟩ := H
                  replace H : (if t227 = 0 then (tithebarnlaw02_KindsCols.l0 k2 l0 l1 x5_2 (wrap64 (x6_2 + 1))) else (tithebarnlaw02_KindsCols.l0 k2 l0 l1 t227 (wrap64 (x6_2 + 1)))) = some r := H
                  have A19 := Aside0.mk A190
                  clear A190
                  by_cases c20 : t227 = 0
                  · rw [if_pos c20] at H
                    have c20b0 : (t227 == 0) = true := beq_iff_eq.mpr c20
                    have c20b1 : (t227 != 0) = false := bne_eq_false_iff_eq.mpr c20
                    clear c20
                    have H' := Aside0.mk H
                    clear H
                    try go_wp2
                    have n0_ := Aside0.mk (below_drew1 HB.out)
                    clear HB
                    have HB := n0_
                    clear n0_
                    have p219 : 0 ≤ (x6_2 : Int) := of_decide_eq_true (by first | (with_reducible assumption) | assumption)
                    have q219 : x6_2 < (l0.length : Int) := of_decide_eq_true (by first | (with_reducible assumption) | assumption)
                    obtain ⟨ad219, e219, hx219_0, hx219_1⟩ := at_T42 HR0.out x6_2 p219 q219
                    have hw219_1 := hx219_1
                    have hw219_0 := hx219_0
                    cases e219
                    replace hx219_0 := (HB.out.cell (World.block_lt_of_cell? w _ hx219_0)).trans hx219_0
                    replace hx219_1 := (HB.out.cell (World.block_lt_of_cell? w _ hx219_1)).trans hx219_1
                    replace p219 := eq_true p219
                    replace q219 := eq_true q219
                    have p223 : 0 ≤ (x6_2 : Int) := of_decide_eq_true (by first | (with_reducible assumption) | assumption)
                    have q223 : x6_2 < (l1.length : Int) := of_decide_eq_true (by first | (with_reducible assumption) | assumption)
                    obtain ⟨ad223, e223, hx223_0, hx223_1, hx223_2⟩ := at_T23 HR1.out x6_2 p223 q223
                    have hw223_2 := hx223_2
                    have hw223_1 := hx223_1
                    have hw223_0 := hx223_0
                    cases e223
                    replace hx223_0 := (HB.out.cell (World.block_lt_of_cell? w _ hx223_0)).trans hx223_0
                    replace hx223_1 := (HB.out.cell (World.block_lt_of_cell? w _ hx223_1)).trans hx223_1
                    replace hx223_2 := (HB.out.cell (World.block_lt_of_cell? w _ hx223_2)).trans hx223_2
                    replace p223 := eq_true p223
                    replace q223 := eq_true q223
                    refine start_ (n := 14) (S := fun w' => True) (ds := []) #[false, false, false, false, false, false, false, false, false, false, false, false, false, false] (by kernel_rfl) rfl rfl trivial (fun hHeld => ?_); refine with_tabW tithebarnlaw02_KindsCols.tab7 tithebarnlaw02_KindsCols.bits7 (fun HT_ HW_ => ?_)
                    generalize wr.drew = w21 at HB hx219_0 hx219_1 hx223_0 hx223_1 hx223_2 hHeld ⊢
                    refine pure_ (i := 1) (N := some 30) (v := ?_) (a' := ?_) #[false, true, false, false, false, false, false, false, false, false, false, false, false, false] rfl rfl (any_of HT_.out (by kernel_rfl)) (fun _ _ _ h => h) (Or.inl ⟨by rfl, ?_⟩) ?_ ?_
                    rotate_left
                    · intro w'
                      go_simp
                      with_reducible rfl
                    rotate_left
                    · simp only [Act.put, List.setIfInBounds_toArray, List.set_cons_zero, List.set_cons_succ, i64_w, i32_w]
                      rfl
                    refine pure_ (i := 2) (N := some 31) (v := ?_) (a' := ?_) #[false, true, true, false, false, false, false, false, false, false, false, false, false, false] rfl rfl (any_of HT_.out (by kernel_rfl)) (fun _ _ _ h => h) (Or.inl ⟨by rfl, ?_⟩) ?_ ?_
                    rotate_left
                    · intro w'
                      go_simp
                      with_reducible rfl
                    rotate_left
                    · simp only [Act.put, List.setIfInBounds_toArray, List.set_cons_zero, List.set_cons_succ, i64_w, i32_w]
                      rfl
                    refine pure_ (i := 7) (N := some 36) (v := ?_) (a' := ?_) #[false, true, true, false, false, false, false, true, false, false, false, false, false, false] rfl rfl (any_of HT_.out (by kernel_rfl)) (fun _ _ _ h => h) (Or.inl ⟨by rfl, ?_⟩) ?_ ?_
                    rotate_left
                    · intro w'
                      go_simp
                      with_reducible rfl
                    rotate_left
                    · simp only [Act.put, List.setIfInBounds_toArray, List.set_cons_zero, List.set_cons_succ, i64_w, i32_w]
                      rfl
                    refine pure_ (i := 8) (N := some 37) (v := ?_) (a' := ?_) #[false, true, true, false, false, false, false, true, true, false, false, false, false, false] rfl rfl (any_of HT_.out (by kernel_rfl)) (fun _ _ _ h => h) (Or.inl ⟨by rfl, ?_⟩) ?_ ?_
                    rotate_left
                    · intro w'
                      go_simp
                      with_reducible rfl
                    rotate_left
                    · simp only [Act.put, List.setIfInBounds_toArray, List.set_cons_zero, List.set_cons_succ, i64_w, i32_w]
                      rfl
                    refine inv_at [0, 3, 4, 5, 6, 9, 10, 11, 12, 13] (fun a0_ b a w' => ∃ (v221 : Value) (v225 : Value), a = putSel a0_ b [(0, 29, .agg #[.int .i64 1, .bool false]), (3, 32, .pointer (some (ad219.add ((x6_2).toNat * 2)))), (4, 33, .agg #[.int .i64 ((rd_T42 l0 x6_2).f0), .bool ((rd_T42 l0 x6_2).f1)]), (5, 34, v221), (6, 35, .agg #[.bool false, .int .i64 1, .string (⟨#[]⟩ : ByteArray)]), (9, 38, .pointer (some (ad223.add ((x6_2).toNat * 3)))), (10, 39, .agg #[.bool ((rd_T23 l1 x6_2).f0), .int .i64 ((rd_T23 l1 x6_2).f1), .string ((rd_T23 l1 x6_2).f2)]), (11, 40, v225), (12, 41, .int .i64 t227), (13, 7, .int .i64 t227)] ∧ (Below w.heap.size w w') ∧ (b 5 = true → Kd.R k42 42 w' w.heap.size (fun _ => True) v221 y220) ∧ (b 11 = true → Kd.R k23 23 w' w.heap.size (fun _ => True) v225 y224)) HT_.out HW_.out (by kernel_rfl) (by kernel_rfl) ?_ ?_ ?_
                    · exact ⟨.bool false, .bool false, by simp only [putSel, Bool.false_eq_true, if_false], HB.out, fun h_ => absurd h_ (by decide), fun h_ => absurd h_ (by decide)⟩
                    · skip
                      clear HB
                      refine steps_cons ?_ ?_
                      · rintro b a w' ⟨v221, v225, ha, Q_HB, Q_HO222, Q_HO226⟩ hb_ hon hoff
                        refine ⟨_, rfl, fun K hK => ?_⟩
                        replace ha := Aside0.mk ha
                        have HB := Aside0.mk Q_HB
                        refine value_ (w1 := w') (v := .agg #[.int .i64 1, .bool false]) (by rfl) rfl ?_ ?_
                        · go_simp
                          (try simp only [i64_w])
                          try rfl
                        refine hK.out _ _ ⟨v221, v225, (by rw [ha.out]; exact putSel_upk 0 hb_ rfl rfl rfl), Q_HB, fun h0_ => absurd ((hoff 5 (by kernel_rfl)).symm.trans h0_) (by decide), Q_HO226⟩
                      refine steps_cons ?_ ?_
                      · rintro b a w' ⟨v221, v225, ha, Q_HB, Q_HO222, Q_HO226⟩ hb_ hon hoff
                        refine ⟨_, rfl, fun K hK => ?_⟩
                        have e30 : a.tmps[30]? = some (.slice (some ad219) l0.length c0) := by rw [ha]; exact (putSel_off rfl).trans rfl
                        have e31 : a.tmps[31]? = some (.int .i64 x6_2) := by rw [ha]; exact (putSel_off rfl).trans rfl
                        replace ha := Aside0.mk ha
                        have HB := Aside0.mk Q_HB
                        have hs0_ : w'.cell? (ad219.add ((x6_2).toNat * 2)) = some (.int .i64 ((rd_T42 l0 x6_2).f0)) := ((HB.out.cell (World.block_lt_of_cell? w _ hw219_0)).trans hw219_0)
                        have hs1_ : w'.cell? ⟨(ad219.add ((x6_2).toNat * 2)).block, (ad219.add ((x6_2).toNat * 2)).off + 1, none⟩ = some (.bool ((rd_T42 l0 x6_2).f1)) := ((HB.out.cell (World.block_lt_of_cell? w _ hw219_1)).trans hw219_1)
                        refine value_ (w1 := w') (v := .pointer (some (ad219.add ((x6_2).toNat * 2)))) (by rfl) rfl ?_ ?_
                        · go_simp
                          (try simp only [i64_w])
                          try rfl
                        refine hK.out _ _ ⟨v221, v225, (by rw [ha.out]; exact putSel_upk 1 hb_ rfl rfl rfl), Q_HB, fun h0_ => absurd ((hoff 5 (by kernel_rfl)).symm.trans h0_) (by decide), Q_HO226⟩
                      refine steps_cons ?_ ?_
                      · rintro b a w' ⟨v221, v225, ha, Q_HB, Q_HO222, Q_HO226⟩ hb_ hon hoff
                        refine ⟨_, rfl, fun K hK => ?_⟩
                        have e32 : a.tmps[32]? = some (.pointer (some (ad219.add ((x6_2).toNat * 2)))) := by rw [ha]; exact putSel_on (e := (3, 32, .pointer (some (ad219.add ((x6_2).toNat * 2))))) 1 rfl rfl (hon 3 (by kernel_rfl)) rfl
                        replace ha := Aside0.mk ha
                        have HB := Aside0.mk Q_HB
                        have hs0_ : w'.cell? (ad219.add ((x6_2).toNat * 2)) = some (.int .i64 ((rd_T42 l0 x6_2).f0)) := ((HB.out.cell (World.block_lt_of_cell? w _ hw219_0)).trans hw219_0)
                        have hs1_ : w'.cell? ⟨(ad219.add ((x6_2).toNat * 2)).block, (ad219.add ((x6_2).toNat * 2)).off + 1, none⟩ = some (.bool ((rd_T42 l0 x6_2).f1)) := ((HB.out.cell (World.block_lt_of_cell? w _ hw219_1)).trans hw219_1)
                        refine value_ (w1 := w') (v := .agg #[.int .i64 ((rd_T42 l0 x6_2).f0), .bool ((rd_T42 l0 x6_2).f1)]) (by rfl) rfl ?_ ?_
                        · go_simp
                          (try simp only [i64_w])
                          try rfl
                        refine hK.out _ _ ⟨v221, v225, (by rw [ha.out]; exact putSel_upk 2 hb_ rfl rfl rfl), Q_HB, fun h0_ => absurd ((hoff 5 (by kernel_rfl)).symm.trans h0_) (by decide), Q_HO226⟩
                      refine steps_cons ?_ ?_
                      · rintro b a w' ⟨v221, v225, ha, Q_HB, Q_HO222, Q_HO226⟩ hb_ hon hoff
                        refine ⟨_, rfl, fun K hK => ?_⟩
                        have e29 : a.tmps[29]? = some (.agg #[.int .i64 1, .bool false]) := by rw [ha]; exact putSel_on (e := (0, 29, .agg #[.int .i64 1, .bool false])) 0 rfl rfl (hon 0 (by kernel_rfl)) rfl
                        have e33 : a.tmps[33]? = some (.agg #[.int .i64 ((rd_T42 l0 x6_2).f0), .bool ((rd_T42 l0 x6_2).f1)]) := by rw [ha]; exact putSel_on (e := (4, 33, .agg #[.int .i64 ((rd_T42 l0 x6_2).f0), .bool ((rd_T42 l0 x6_2).f1)])) 2 rfl rfl (hon 4 (by kernel_rfl)) rfl
                        replace ha := Aside0.mk ha
                        have HB := Aside0.mk Q_HB
                        refine Kd.R_lit_step k42 _ 42 ?hg (N := 34) ?hd (xs := ([(⟨1, false⟩ : S42), (⟨(rd_T42 l0 x6_2).f0, (rd_T42 l0 x6_2).f1⟩ : S42)] : List (S42))) (inner := [.int .i64 1, .bool false, .int .i64 ((rd_T42 l0 x6_2).f0), .bool ((rd_T42 l0 x6_2).f1)]) (ok := fun _ => True) (okp := fun _ => True) ?hr ?hp (fun _ hk => hk) trivial (Below.refl _ _) (Nat.le_refl _) (by simp) ?_; (case hd => rfl); (case hg => rfl); (case hr => first | (go_simp; done) | (go_simp; rfl)); (case hp => exact (Reps.c2 (show Kd.M k42 _ _ _ (⟨1, false⟩ : S42) [.int .i64 1, .bool false] from (k42_mkM _ _ _ (⟨1, false⟩ : S42) )) (Reps.c2 (show Kd.M k42 _ _ _ (⟨(rd_T42 l0 x6_2).f0, (rd_T42 l0 x6_2).f1⟩ : S42) [.int .i64 ((rd_T42 l0 x6_2).f0), .bool ((rd_T42 l0 x6_2).f1)] from (k42_mkM _ _ _ (⟨(rd_T42 l0 x6_2).f0, (rd_T42 l0 x6_2).f1⟩ : S42) )) (Reps.none _ _))))
                        intro v221 w22 ho23 hb hg_ hnew_
                        clear hg_ hnew_
                        (first | rw [← Ny220.out] at ho23 | (simp only [Int.reduceToNat] at ho23; rw [← Ny220.out] at ho23))
                        have n0_ := Aside0.mk (Kd.R_lower ho23 (below_size (by repeat (first | (with_reducible first | exact HB.out | apply below_alloc | apply pw_below_drewN | apply below_drew1) | exact HB.out))))
                        have n1_ := Aside0.mk (below_step (by repeat (first | (with_reducible first | exact HB.out | apply below_alloc | apply pw_below_drewN | apply below_drew1) | exact HB.out)) hb)
                        have z_HO226 := fun (h0_ : b 11 = true) => (show Kd.R k23 23 w22 w.heap.size (fun _ => True) v225 y224 from by first | exact (Kd.R_below (by (with_reducible repeat (first | apply Kd.R_alloc | apply Kd.R_drewN | apply Kd.R_drew)); exact (Q_HO226 h0_)) hb) | exact Kd.R_mono (Kd.R_below (by (with_reducible repeat (first | apply Kd.R_alloc | apply Kd.R_drewN | apply Kd.R_drew)); exact (Q_HO226 h0_)) hb) (fun _ h_ => by first | trivial | exact h_ | exact h_.1))
                        clear HB
                        have HO222 := n0_
                        have HB := n1_
                        clear n0_ n1_
                        clear hb ho23
                        refine hK.out _ _ ⟨v221, v225, (by rw [ha.out]; exact putSel_upk 3 hb_ rfl rfl rfl), (by repeat (first | (with_reducible first | exact HB.out | apply below_alloc | apply pw_below_drewN | apply below_drew1) | exact HB.out)), fun _ => (by (with_reducible repeat (first | apply Kd.R_alloc | apply Kd.R_drewN | apply Kd.R_drew)); exact HO222.out), z_HO226⟩
                      refine steps_cons ?_ ?_
                      · rintro b a w' ⟨v221, v225, ha, Q_HB, Q_HO222, Q_HO226⟩ hb_ hon hoff
                        refine ⟨_, rfl, fun K hK => ?_⟩
                        replace ha := Aside0.mk ha
                        have HB := Aside0.mk Q_HB
                        refine value_ (w1 := w') (v := .agg #[.bool false, .int .i64 1, .string (⟨#[]⟩ : ByteArray)]) (by rfl) rfl ?_ ?_
                        · go_simp
                          (try simp only [i64_w])
                          try rfl
                        refine hK.out _ _ ⟨v221, v225, (by rw [ha.out]; exact putSel_upk 4 hb_ rfl rfl rfl), Q_HB, Q_HO222, fun h0_ => absurd ((hoff 11 (by kernel_rfl)).symm.trans h0_) (by decide)⟩
                      refine steps_cons ?_ ?_
                      · rintro b a w' ⟨v221, v225, ha, Q_HB, Q_HO222, Q_HO226⟩ hb_ hon hoff
                        refine ⟨_, rfl, fun K hK => ?_⟩
                        have e36 : a.tmps[36]? = some (.slice (some ad223) l1.length c1) := by rw [ha]; exact (putSel_off rfl).trans rfl
                        have e37 : a.tmps[37]? = some (.int .i64 x6_2) := by rw [ha]; exact (putSel_off rfl).trans rfl
                        replace ha := Aside0.mk ha
                        have HB := Aside0.mk Q_HB
                        have hs2_ : w'.cell? (ad223.add ((x6_2).toNat * 3)) = some (.bool ((rd_T23 l1 x6_2).f0)) := ((HB.out.cell (World.block_lt_of_cell? w _ hw223_0)).trans hw223_0)
                        have hs3_ : w'.cell? ⟨(ad223.add ((x6_2).toNat * 3)).block, (ad223.add ((x6_2).toNat * 3)).off + 1, none⟩ = some (.int .i64 ((rd_T23 l1 x6_2).f1)) := ((HB.out.cell (World.block_lt_of_cell? w _ hw223_1)).trans hw223_1)
                        have hs4_ : w'.cell? ⟨(ad223.add ((x6_2).toNat * 3)).block, (ad223.add ((x6_2).toNat * 3)).off + 2, none⟩ = some (.string ((rd_T23 l1 x6_2).f2)) := ((HB.out.cell (World.block_lt_of_cell? w _ hw223_2)).trans hw223_2)
                        refine value_ (w1 := w') (v := .pointer (some (ad223.add ((x6_2).toNat * 3)))) (by rfl) rfl ?_ ?_
                        · go_simp
                          (try simp only [i64_w])
                          try rfl
                        refine hK.out _ _ ⟨v221, v225, (by rw [ha.out]; exact putSel_upk 5 hb_ rfl rfl rfl), Q_HB, Q_HO222, fun h0_ => absurd ((hoff 11 (by kernel_rfl)).symm.trans h0_) (by decide)⟩
                      refine steps_cons ?_ ?_
                      · rintro b a w' ⟨v221, v225, ha, Q_HB, Q_HO222, Q_HO226⟩ hb_ hon hoff
                        refine ⟨_, rfl, fun K hK => ?_⟩
                        have e38 : a.tmps[38]? = some (.pointer (some (ad223.add ((x6_2).toNat * 3)))) := by rw [ha]; exact putSel_on (e := (9, 38, .pointer (some (ad223.add ((x6_2).toNat * 3))))) 5 rfl rfl (hon 9 (by kernel_rfl)) rfl
                        replace ha := Aside0.mk ha
                        have HB := Aside0.mk Q_HB
                        have hs2_ : w'.cell? (ad223.add ((x6_2).toNat * 3)) = some (.bool ((rd_T23 l1 x6_2).f0)) := ((HB.out.cell (World.block_lt_of_cell? w _ hw223_0)).trans hw223_0)
                        have hs3_ : w'.cell? ⟨(ad223.add ((x6_2).toNat * 3)).block, (ad223.add ((x6_2).toNat * 3)).off + 1, none⟩ = some (.int .i64 ((rd_T23 l1 x6_2).f1)) := ((HB.out.cell (World.block_lt_of_cell? w _ hw223_1)).trans hw223_1)
                        have hs4_ : w'.cell? ⟨(ad223.add ((x6_2).toNat * 3)).block, (ad223.add ((x6_2).toNat * 3)).off + 2, none⟩ = some (.string ((rd_T23 l1 x6_2).f2)) := ((HB.out.cell (World.block_lt_of_cell? w _ hw223_2)).trans hw223_2)
                        refine value_ (w1 := w') (v := .agg #[.bool ((rd_T23 l1 x6_2).f0), .int .i64 ((rd_T23 l1 x6_2).f1), .string ((rd_T23 l1 x6_2).f2)]) (by rfl) rfl ?_ ?_
                        · go_simp
                          (try simp only [i64_w])
                          try rfl
                        refine hK.out _ _ ⟨v221, v225, (by rw [ha.out]; exact putSel_upk 6 hb_ rfl rfl rfl), Q_HB, Q_HO222, fun h0_ => absurd ((hoff 11 (by kernel_rfl)).symm.trans h0_) (by decide)⟩
                      refine steps_cons ?_ ?_
                      · rintro b a w' ⟨v221, v225, ha, Q_HB, Q_HO222, Q_HO226⟩ hb_ hon hoff
                        refine ⟨_, rfl, fun K hK => ?_⟩
                        have e35 : a.tmps[35]? = some (.agg #[.bool false, .int .i64 1, .string (⟨#[]⟩ : ByteArray)]) := by rw [ha]; exact putSel_on (e := (6, 35, .agg #[.bool false, .int .i64 1, .string (⟨#[]⟩ : ByteArray)])) 4 rfl rfl (hon 6 (by kernel_rfl)) rfl
                        have e39 : a.tmps[39]? = some (.agg #[.bool ((rd_T23 l1 x6_2).f0), .int .i64 ((rd_T23 l1 x6_2).f1), .string ((rd_T23 l1 x6_2).f2)]) := by rw [ha]; exact putSel_on (e := (10, 39, .agg #[.bool ((rd_T23 l1 x6_2).f0), .int .i64 ((rd_T23 l1 x6_2).f1), .string ((rd_T23 l1 x6_2).f2)])) 6 rfl rfl (hon 10 (by kernel_rfl)) rfl
                        replace ha := Aside0.mk ha
                        have HB := Aside0.mk Q_HB
                        refine Kd.R_lit_step k23 _ 23 ?hg (N := 40) ?hd (xs := ([(⟨false, 1, (⟨#[]⟩ : ByteArray)⟩ : S23), (⟨(rd_T23 l1 x6_2).f0, (rd_T23 l1 x6_2).f1, (rd_T23 l1 x6_2).f2⟩ : S23)] : List (S23))) (inner := [.bool false, .int .i64 1, .string (⟨#[]⟩ : ByteArray), .bool ((rd_T23 l1 x6_2).f0), .int .i64 ((rd_T23 l1 x6_2).f1), .string ((rd_T23 l1 x6_2).f2)]) (ok := fun _ => True) (okp := fun _ => True) ?hr ?hp (fun _ hk => hk) trivial (Below.refl _ _) (Nat.le_refl _) (by simp) ?_; (case hd => rfl); (case hg => rfl); (case hr => first | (go_simp; done) | (go_simp; rfl)); (case hp => exact (Reps.c3 (show Kd.M k23 _ _ _ (⟨false, 1, (⟨#[]⟩ : ByteArray)⟩ : S23) [.bool false, .int .i64 1, .string (⟨#[]⟩ : ByteArray)] from (k23_mkM _ _ _ (⟨false, 1, (⟨#[]⟩ : ByteArray)⟩ : S23) )) (Reps.c3 (show Kd.M k23 _ _ _ (⟨(rd_T23 l1 x6_2).f0, (rd_T23 l1 x6_2).f1, (rd_T23 l1 x6_2).f2⟩ : S23) [.bool ((rd_T23 l1 x6_2).f0), .int .i64 ((rd_T23 l1 x6_2).f1), .string ((rd_T23 l1 x6_2).f2)] from (k23_mkM _ _ _ (⟨(rd_T23 l1 x6_2).f0, (rd_T23 l1 x6_2).f1, (rd_T23 l1 x6_2).f2⟩ : S23) )) (Reps.none _ _))))
                        intro v225 w22 ho23 hb hg_ hnew_
                        clear hg_ hnew_
                        (first | rw [← Ny224.out] at ho23 | (simp only [Int.reduceToNat] at ho23; rw [← Ny224.out] at ho23))
                        have n0_ := Aside0.mk (Kd.R_lower ho23 (below_size (by repeat (first | (with_reducible first | exact HB.out | apply below_alloc | apply pw_below_drewN | apply below_drew1) | exact HB.out))))
                        have n1_ := Aside0.mk (below_step (by repeat (first | (with_reducible first | exact HB.out | apply below_alloc | apply pw_below_drewN | apply below_drew1) | exact HB.out)) hb)
                        have z_HO222 := fun (h0_ : b 5 = true) => (show Kd.R k42 42 w22 w.heap.size (fun _ => True) v221 y220 from by first | exact (Kd.R_below (by (with_reducible repeat (first | apply Kd.R_alloc | apply Kd.R_drewN | apply Kd.R_drew)); exact (Q_HO222 h0_)) hb) | exact Kd.R_mono (Kd.R_below (by (with_reducible repeat (first | apply Kd.R_alloc | apply Kd.R_drewN | apply Kd.R_drew)); exact (Q_HO222 h0_)) hb) (fun _ h_ => by first | trivial | exact h_ | exact h_.1))
                        clear HB
                        have HO226 := n0_
                        have HB := n1_
                        clear n0_ n1_
                        clear hb ho23
                        refine hK.out _ _ ⟨v221, v225, (by rw [ha.out]; exact putSel_upk 7 hb_ rfl rfl rfl), (by repeat (first | (with_reducible first | exact HB.out | apply below_alloc | apply pw_below_drewN | apply below_drew1) | exact HB.out)), z_HO222, fun _ => (by (with_reducible repeat (first | apply Kd.R_alloc | apply Kd.R_drewN | apply Kd.R_drew)); exact HO226.out)⟩
                      refine steps_cons ?_ ?_
                      · rintro b a w' ⟨v221, v225, ha, Q_HB, Q_HO222, Q_HO226⟩ hb_ hon hoff
                        refine ⟨_, rfl, fun K hK => ?_⟩
                        have e34 : a.tmps[34]? = some (v221) := by rw [ha]; exact putSel_on (e := (5, 34, v221)) 3 rfl rfl (hon 5 (by kernel_rfl)) rfl
                        have e40 : a.tmps[40]? = some (v225) := by rw [ha]; exact putSel_on (e := (11, 40, v225)) 7 rfl rfl (hon 11 (by kernel_rfl)) rfl
                        replace ha := Aside0.mk ha
                        have HB := Aside0.mk Q_HB
                        have HO222 := Aside0.mk (Q_HO222 (hon 5 (by kernel_rfl)))
                        have HO226 := Aside0.mk (Q_HO226 (hon 11 (by kernel_rfl)))
                        obtain ⟨Ao27, co27, eo27⟩ := Kd.R_slice HO222.out
                        (first | subst eo27 | (injection eo27 with f1_ f2_ f3_; have f4_ := f1_.symm; have f5_ := f3_.symm; clear f1_ f2_ f3_; subst f4_; subst f5_))
                        obtain ⟨Ao28, co28, eo28⟩ := Kd.R_slice HO226.out
                        (first | subst eo28 | (injection eo28 with f1_ f2_ f3_; have f4_ := f1_.symm; have f5_ := f3_.symm; clear f1_ f2_ f3_; subst f4_; subst f5_))
                        refine goes_ Try.func22 (by kernel_rfl) rfl #[.slice Ao27 y220.length co27, .slice Ao28 y224.length co28] (by rfl) rfl rfl (by first | (simp only [List.map_toArray, List.map_cons, List.map_nil, Act.eval, Array.getD_eq_getD_getElem?, Option.getD_some, e34, e40]; done) | (simp only [List.map_toArray, List.map_cons, List.map_nil, Act.eval, Array.getD_eq_getD_getElem?, Option.getD_some, e34, e40]; rfl)) ?_
                        with_reducible refine (kinds_Fits_c.calls _ _ y220 _ _ y224 t227 _ ?side1 ?side2 ?side3 ?side4 A19.out).mono ?_
                        (case side1 => repeat (first | exact (Kd.R_reads' HO222.out).2.2 | (with_reducible refine Kd.C_alloc ?_ _) | (with_reducible refine Kd.C_drewN ?_ _) | (with_reducible refine Kd.C_drew ?_)))
                        (case side2 => exact (Kd.R_reads' HO222.out).2.1)
                        (case side3 => repeat (first | exact (Kd.R_reads' HO226.out).2.2 | (with_reducible refine Kd.C_alloc ?_ _) | (with_reducible refine Kd.C_drewN ?_ _) | (with_reducible refine Kd.C_drew ?_)))
                        (case side4 => exact (Kd.R_reads' HO226.out).2.1)
                        rintro e w29 ⟨rfl, hb⟩
                        refine ⟨_, rfl, ?_⟩
                        have n0_ := Aside0.mk (Kd.R_below (by (with_reducible repeat (first | apply Kd.R_alloc | apply Kd.R_drewN | apply Kd.R_drew)); exact HO222.out) hb)
                        have n1_ := Aside0.mk (Kd.R_below (by (with_reducible repeat (first | apply Kd.R_alloc | apply Kd.R_drewN | apply Kd.R_drew)); exact HO226.out) hb)
                        have n2_ := Aside0.mk (below_step (by repeat (first | (with_reducible first | exact HB.out | apply below_alloc | apply pw_below_drewN | apply below_drew1) | exact HB.out)) hb)
                        clear HO222
                        clear HO226
                        clear HB
                        have HO222 := n0_
                        have HO226 := n1_
                        have HB := n2_
                        clear n0_ n1_ n2_
                        (try clear hb)
                        (try clear hb2)
                        (try clear hk)
                        (try clear hi)
                        refine hK.out _ _ ⟨.slice Ao27 y220.length co27, .slice Ao28 y224.length co28, (by rw [ha.out]; exact putSel_upk 8 hb_ rfl rfl rfl), (by repeat (first | (with_reducible first | exact HB.out | apply below_alloc | apply pw_below_drewN | apply below_drew1) | exact HB.out)), fun _ => (by (with_reducible repeat (first | apply Kd.R_alloc | apply Kd.R_drewN | apply Kd.R_drew)); exact HO222.out), fun _ => (by (with_reducible repeat (first | apply Kd.R_alloc | apply Kd.R_drewN | apply Kd.R_drew)); exact HO226.out)⟩
                      refine steps_cons ?_ ?_
                      · rintro b a w' ⟨v221, v225, ha, Q_HB, Q_HO222, Q_HO226⟩ hb_ hon hoff
                        refine ⟨_, rfl, fun K hK => ?_⟩
                        have e41 : a.tmps[41]? = some (.int .i64 t227) := by rw [ha]; exact putSel_on (e := (12, 41, .int .i64 t227)) 8 rfl rfl (hon 12 (by kernel_rfl)) rfl
                        replace ha := Aside0.mk ha
                        have HB := Aside0.mk Q_HB
                        have HO222 := Aside0.mk (Q_HO222 (hon 5 (by kernel_rfl)))
                        have HO226 := Aside0.mk (Q_HO226 (hon 11 (by kernel_rfl)))
                        refine value_ (w1 := w') (v := .int .i64 t227) (by rfl) rfl ?_ ?_
                        · go_simp
                          (try simp only [i64_w])
                          try rfl
                        refine hK.out _ _ ⟨v221, v225, (by rw [ha.out]; exact putSel_upk 9 hb_ rfl rfl rfl), Q_HB, Q_HO222, Q_HO226⟩
                      exact steps_nil
                    rintro b a w29 hall ⟨v221, v225, ha, Q_HB, Q_HO222, Q_HO226⟩
                    clear HB
                    have hb0_ := hall 0 (by kernel_rfl)
                    have hb3_ := hall 3 (by kernel_rfl)
                    have hb4_ := hall 4 (by kernel_rfl)
                    have hb5_ := hall 5 (by kernel_rfl)
                    have hb6_ := hall 6 (by kernel_rfl)
                    have hb9_ := hall 9 (by kernel_rfl)
                    have hb10_ := hall 10 (by kernel_rfl)
                    have hb11_ := hall 11 (by kernel_rfl)
                    have hb12_ := hall 12 (by kernel_rfl)
                    have hb13_ := hall 13 (by kernel_rfl)
                    subst ha
                    simp only [putSel, hb0_, hb3_, hb4_, hb5_, hb6_, hb9_, hb10_, hb11_, hb12_, hb13_, if_true, Act.put, List.setIfInBounds_toArray, List.set_cons_zero, List.set_cons_succ]
                    have HB := Aside0.mk Q_HB
                    clear Q_HB
                    have HO222 := Aside0.mk (Q_HO222 hb5_)
                    clear Q_HO222
                    have HO226 := Aside0.mk (Q_HO226 hb11_)
                    clear Q_HO226
                    clear hall hb0_ hb3_ hb4_ hb5_ hb6_ hb9_ hb10_ hb11_ hb12_ hb13_
                    try go_wp2
                    go_roundg k2
                    case measure => have := HJ2.out; have := HK2.out; omega
                    case rel => exact ⟨(x5_2), (wrap64 (x6_2 + 1)), (by first | rfl | (simp; done) | (simp [*]; done)), (by first | rfl | (simp; done) | (simp [*]; done)), H', ⟨by have := HJ2.out; have := HK2.out; omega⟩, ⟨by repeat (first | (with_reducible first | exact HB.out | apply below_alloc | apply pw_below_drewN | apply below_drew1) | exact HB.out)⟩⟩
                  · rw [if_neg c20] at H
                    have c20b0 : (t227 == 0) = false := beq_eq_false_iff_ne.mpr c20
                    have c20b1 : (t227 != 0) = true := bne_iff_ne.mpr c20
                    have H' := Aside0.mk H
                    clear H
                    try go_wp2
                    have n0_ := Aside0.mk (below_drew1 HB.out)
                    clear HB
                    have HB := n0_
                    clear n0_
                    have p219 : 0 ≤ (x6_2 : Int) := of_decide_eq_true (by first | (with_reducible assumption) | assumption)
                    have q219 : x6_2 < (l0.length : Int) := of_decide_eq_true (by first | (with_reducible assumption) | assumption)
                    obtain ⟨ad219, e219, hx219_0, hx219_1⟩ := at_T42 HR0.out x6_2 p219 q219
                    have hw219_1 := hx219_1
                    have hw219_0 := hx219_0
                    cases e219
                    replace hx219_0 := (HB.out.cell (World.block_lt_of_cell? w _ hx219_0)).trans hx219_0
                    replace hx219_1 := (HB.out.cell (World.block_lt_of_cell? w _ hx219_1)).trans hx219_1
                    replace p219 := eq_true p219
                    replace q219 := eq_true q219
                    have p223 : 0 ≤ (x6_2 : Int) := of_decide_eq_true (by first | (with_reducible assumption) | assumption)
                    have q223 : x6_2 < (l1.length : Int) := of_decide_eq_true (by first | (with_reducible assumption) | assumption)
                    obtain ⟨ad223, e223, hx223_0, hx223_1, hx223_2⟩ := at_T23 HR1.out x6_2 p223 q223
                    have hw223_2 := hx223_2
                    have hw223_1 := hx223_1
                    have hw223_0 := hx223_0
                    cases e223
                    replace hx223_0 := (HB.out.cell (World.block_lt_of_cell? w _ hx223_0)).trans hx223_0
                    replace hx223_1 := (HB.out.cell (World.block_lt_of_cell? w _ hx223_1)).trans hx223_1
                    replace hx223_2 := (HB.out.cell (World.block_lt_of_cell? w _ hx223_2)).trans hx223_2
                    replace p223 := eq_true p223
                    replace q223 := eq_true q223
                    refine start_ (n := 14) (S := fun w' => True) (ds := []) #[false, false, false, false, false, false, false, false, false, false, false, false, false, false] (by kernel_rfl) rfl rfl trivial (fun hHeld => ?_); refine with_tabW tithebarnlaw02_KindsCols.tab7 tithebarnlaw02_KindsCols.bits7 (fun HT_ HW_ => ?_)
                    generalize wr.drew = w30 at HB hx219_0 hx219_1 hx223_0 hx223_1 hx223_2 hHeld ⊢
                    refine pure_ (i := 1) (N := some 30) (v := ?_) (a' := ?_) #[false, true, false, false, false, false, false, false, false, false, false, false, false, false] rfl rfl (any_of HT_.out (by kernel_rfl)) (fun _ _ _ h => h) (Or.inl ⟨by rfl, ?_⟩) ?_ ?_
                    rotate_left
                    · intro w'
                      go_simp
                      with_reducible rfl
                    rotate_left
                    · simp only [Act.put, List.setIfInBounds_toArray, List.set_cons_zero, List.set_cons_succ, i64_w, i32_w]
                      rfl
                    refine pure_ (i := 2) (N := some 31) (v := ?_) (a' := ?_) #[false, true, true, false, false, false, false, false, false, false, false, false, false, false] rfl rfl (any_of HT_.out (by kernel_rfl)) (fun _ _ _ h => h) (Or.inl ⟨by rfl, ?_⟩) ?_ ?_
                    rotate_left
                    · intro w'
                      go_simp
                      with_reducible rfl
                    rotate_left
                    · simp only [Act.put, List.setIfInBounds_toArray, List.set_cons_zero, List.set_cons_succ, i64_w, i32_w]
                      rfl
                    refine pure_ (i := 7) (N := some 36) (v := ?_) (a' := ?_) #[false, true, true, false, false, false, false, true, false, false, false, false, false, false] rfl rfl (any_of HT_.out (by kernel_rfl)) (fun _ _ _ h => h) (Or.inl ⟨by rfl, ?_⟩) ?_ ?_
                    rotate_left
                    · intro w'
                      go_simp
                      with_reducible rfl
                    rotate_left
                    · simp only [Act.put, List.setIfInBounds_toArray, List.set_cons_zero, List.set_cons_succ, i64_w, i32_w]
                      rfl
                    refine pure_ (i := 8) (N := some 37) (v := ?_) (a' := ?_) #[false, true, true, false, false, false, false, true, true, false, false, false, false, false] rfl rfl (any_of HT_.out (by kernel_rfl)) (fun _ _ _ h => h) (Or.inl ⟨by rfl, ?_⟩) ?_ ?_
                    rotate_left
                    · intro w'
                      go_simp
                      with_reducible rfl
                    rotate_left
                    · simp only [Act.put, List.setIfInBounds_toArray, List.set_cons_zero, List.set_cons_succ, i64_w, i32_w]
                      rfl
                    refine inv_at [0, 3, 4, 5, 6, 9, 10, 11, 12, 13] (fun a0_ b a w' => ∃ (v221 : Value) (v225 : Value), a = putSel a0_ b [(0, 29, .agg #[.int .i64 1, .bool false]), (3, 32, .pointer (some (ad219.add ((x6_2).toNat * 2)))), (4, 33, .agg #[.int .i64 ((rd_T42 l0 x6_2).f0), .bool ((rd_T42 l0 x6_2).f1)]), (5, 34, v221), (6, 35, .agg #[.bool false, .int .i64 1, .string (⟨#[]⟩ : ByteArray)]), (9, 38, .pointer (some (ad223.add ((x6_2).toNat * 3)))), (10, 39, .agg #[.bool ((rd_T23 l1 x6_2).f0), .int .i64 ((rd_T23 l1 x6_2).f1), .string ((rd_T23 l1 x6_2).f2)]), (11, 40, v225), (12, 41, .int .i64 t227), (13, 7, .int .i64 t227)] ∧ (Below w.heap.size w w') ∧ (b 5 = true → Kd.R k42 42 w' w.heap.size (fun _ => True) v221 y220) ∧ (b 11 = true → Kd.R k23 23 w' w.heap.size (fun _ => True) v225 y224)) HT_.out HW_.out (by kernel_rfl) (by kernel_rfl) ?_ ?_ ?_
                    · exact ⟨.bool false, .bool false, by simp only [putSel, Bool.false_eq_true, if_false], HB.out, fun h_ => absurd h_ (by decide), fun h_ => absurd h_ (by decide)⟩
                    · skip
                      clear HB
                      refine steps_cons ?_ ?_
                      · rintro b a w' ⟨v221, v225, ha, Q_HB, Q_HO222, Q_HO226⟩ hb_ hon hoff
                        refine ⟨_, rfl, fun K hK => ?_⟩
                        replace ha := Aside0.mk ha
                        have HB := Aside0.mk Q_HB
                        refine value_ (w1 := w') (v := .agg #[.int .i64 1, .bool false]) (by rfl) rfl ?_ ?_
                        · go_simp
                          (try simp only [i64_w])
                          try rfl
                        refine hK.out _ _ ⟨v221, v225, (by rw [ha.out]; exact putSel_upk 0 hb_ rfl rfl rfl), Q_HB, fun h0_ => absurd ((hoff 5 (by kernel_rfl)).symm.trans h0_) (by decide), Q_HO226⟩
                      refine steps_cons ?_ ?_
                      · rintro b a w' ⟨v221, v225, ha, Q_HB, Q_HO222, Q_HO226⟩ hb_ hon hoff
                        refine ⟨_, rfl, fun K hK => ?_⟩
                        have e30 : a.tmps[30]? = some (.slice (some ad219) l0.length c0) := by rw [ha]; exact (putSel_off rfl).trans rfl
                        have e31 : a.tmps[31]? = some (.int .i64 x6_2) := by rw [ha]; exact (putSel_off rfl).trans rfl
                        replace ha := Aside0.mk ha
                        have HB := Aside0.mk Q_HB
                        have hs0_ : w'.cell? (ad219.add ((x6_2).toNat * 2)) = some (.int .i64 ((rd_T42 l0 x6_2).f0)) := ((HB.out.cell (World.block_lt_of_cell? w _ hw219_0)).trans hw219_0)
                        have hs1_ : w'.cell? ⟨(ad219.add ((x6_2).toNat * 2)).block, (ad219.add ((x6_2).toNat * 2)).off + 1, none⟩ = some (.bool ((rd_T42 l0 x6_2).f1)) := ((HB.out.cell (World.block_lt_of_cell? w _ hw219_1)).trans hw219_1)
                        refine value_ (w1 := w') (v := .pointer (some (ad219.add ((x6_2).toNat * 2)))) (by rfl) rfl ?_ ?_
                        · go_simp
                          (try simp only [i64_w])
                          try rfl
                        refine hK.out _ _ ⟨v221, v225, (by rw [ha.out]; exact putSel_upk 1 hb_ rfl rfl rfl), Q_HB, fun h0_ => absurd ((hoff 5 (by kernel_rfl)).symm.trans h0_) (by decide), Q_HO226⟩
                      refine steps_cons ?_ ?_
                      · rintro b a w' ⟨v221, v225, ha, Q_HB, Q_HO222, Q_HO226⟩ hb_ hon hoff
                        refine ⟨_, rfl, fun K hK => ?_⟩
                        have e32 : a.tmps[32]? = some (.pointer (some (ad219.add ((x6_2).toNat * 2)))) := by rw [ha]; exact putSel_on (e := (3, 32, .pointer (some (ad219.add ((x6_2).toNat * 2))))) 1 rfl rfl (hon 3 (by kernel_rfl)) rfl
                        replace ha := Aside0.mk ha
                        have HB := Aside0.mk Q_HB
                        have hs0_ : w'.cell? (ad219.add ((x6_2).toNat * 2)) = some (.int .i64 ((rd_T42 l0 x6_2).f0)) := ((HB.out.cell (World.block_lt_of_cell? w _ hw219_0)).trans hw219_0)
                        have hs1_ : w'.cell? ⟨(ad219.add ((x6_2).toNat * 2)).block, (ad219.add ((x6_2).toNat * 2)).off + 1, none⟩ = some (.bool ((rd_T42 l0 x6_2).f1)) := ((HB.out.cell (World.block_lt_of_cell? w _ hw219_1)).trans hw219_1)
                        refine value_ (w1 := w') (v := .agg #[.int .i64 ((rd_T42 l0 x6_2).f0), .bool ((rd_T42 l0 x6_2).f1)]) (by rfl) rfl ?_ ?_
                        · go_simp
                          (try simp only [i64_w])
                          try rfl
                        refine hK.out _ _ ⟨v221, v225, (by rw [ha.out]; exact putSel_upk 2 hb_ rfl rfl rfl), Q_HB, fun h0_ => absurd ((hoff 5 (by kernel_rfl)).symm.trans h0_) (by decide), Q_HO226⟩
                      refine steps_cons ?_ ?_
                      · rintro b a w' ⟨v221, v225, ha, Q_HB, Q_HO222, Q_HO226⟩ hb_ hon hoff
                        refine ⟨_, rfl, fun K hK => ?_⟩
                        have e29 : a.tmps[29]? = some (.agg #[.int .i64 1, .bool false]) := by rw [ha]; exact putSel_on (e := (0, 29, .agg #[.int .i64 1, .bool false])) 0 rfl rfl (hon 0 (by kernel_rfl)) rfl
                        have e33 : a.tmps[33]? = some (.agg #[.int .i64 ((rd_T42 l0 x6_2).f0), .bool ((rd_T42 l0 x6_2).f1)]) := by rw [ha]; exact putSel_on (e := (4, 33, .agg #[.int .i64 ((rd_T42 l0 x6_2).f0), .bool ((rd_T42 l0 x6_2).f1)])) 2 rfl rfl (hon 4 (by kernel_rfl)) rfl
                        replace ha := Aside0.mk ha
                        have HB := Aside0.mk Q_HB
                        refine Kd.R_lit_step k42 _ 42 ?hg (N := 34) ?hd (xs := ([(⟨1, false⟩ : S42), (⟨(rd_T42 l0 x6_2).f0, (rd_T42 l0 x6_2).f1⟩ : S42)] : List (S42))) (inner := [.int .i64 1, .bool false, .int .i64 ((rd_T42 l0 x6_2).f0), .bool ((rd_T42 l0 x6_2).f1)]) (ok := fun _ => True) (okp := fun _ => True) ?hr ?hp (fun _ hk => hk) trivial (Below.refl _ _) (Nat.le_refl _) (by simp) ?_; (case hd => rfl); (case hg => rfl); (case hr => first | (go_simp; done) | (go_simp; rfl)); (case hp => exact (Reps.c2 (show Kd.M k42 _ _ _ (⟨1, false⟩ : S42) [.int .i64 1, .bool false] from (k42_mkM _ _ _ (⟨1, false⟩ : S42) )) (Reps.c2 (show Kd.M k42 _ _ _ (⟨(rd_T42 l0 x6_2).f0, (rd_T42 l0 x6_2).f1⟩ : S42) [.int .i64 ((rd_T42 l0 x6_2).f0), .bool ((rd_T42 l0 x6_2).f1)] from (k42_mkM _ _ _ (⟨(rd_T42 l0 x6_2).f0, (rd_T42 l0 x6_2).f1⟩ : S42) )) (Reps.none _ _))))
                        intro v221 w31 ho32 hb hg_ hnew_
                        clear hg_ hnew_
                        (first | rw [← Ny220.out] at ho32 | (simp only [Int.reduceToNat] at ho32; rw [← Ny220.out] at ho32))
                        have n0_ := Aside0.mk (Kd.R_lower ho32 (below_size (by repeat (first | (with_reducible first | exact HB.out | apply below_alloc | apply pw_below_drewN | apply below_drew1) | exact HB.out))))
                        have n1_ := Aside0.mk (below_step (by repeat (first | (with_reducible first | exact HB.out | apply below_alloc | apply pw_below_drewN | apply below_drew1) | exact HB.out)) hb)
                        have z_HO226 := fun (h0_ : b 11 = true) => (show Kd.R k23 23 w31 w.heap.size (fun _ => True) v225 y224 from by first | exact (Kd.R_below (by (with_reducible repeat (first | apply Kd.R_alloc | apply Kd.R_drewN | apply Kd.R_drew)); exact (Q_HO226 h0_)) hb) | exact Kd.R_mono (Kd.R_below (by (with_reducible repeat (first | apply Kd.R_alloc | apply Kd.R_drewN | apply Kd.R_drew)); exact (Q_HO226 h0_)) hb) (fun _ h_ => by first | trivial | exact h_ | exact h_.1))
                        clear HB
                        have HO222 := n0_
                        have HB := n1_
                        clear n0_ n1_
                        clear hb ho32
                        refine hK.out _ _ ⟨v221, v225, (by rw [ha.out]; exact putSel_upk 3 hb_ rfl rfl rfl), (by repeat (first | (with_reducible first | exact HB.out | apply below_alloc | apply pw_below_drewN | apply below_drew1) | exact HB.out)), fun _ => (by (with_reducible repeat (first | apply Kd.R_alloc | apply Kd.R_drewN | apply Kd.R_drew)); exact HO222.out), z_HO226⟩
                      refine steps_cons ?_ ?_
                      · rintro b a w' ⟨v221, v225, ha, Q_HB, Q_HO222, Q_HO226⟩ hb_ hon hoff
                        refine ⟨_, rfl, fun K hK => ?_⟩
                        replace ha := Aside0.mk ha
                        have HB := Aside0.mk Q_HB
                        refine value_ (w1 := w') (v := .agg #[.bool false, .int .i64 1, .string (⟨#[]⟩ : ByteArray)]) (by rfl) rfl ?_ ?_
                        · go_simp
                          (try simp only [i64_w])
                          try rfl
                        refine hK.out _ _ ⟨v221, v225, (by rw [ha.out]; exact putSel_upk 4 hb_ rfl rfl rfl), Q_HB, Q_HO222, fun h0_ => absurd ((hoff 11 (by kernel_rfl)).symm.trans h0_) (by decide)⟩
                      refine steps_cons ?_ ?_
                      · rintro b a w' ⟨v221, v225, ha, Q_HB, Q_HO222, Q_HO226⟩ hb_ hon hoff
                        refine ⟨_, rfl, fun K hK => ?_⟩
                        have e36 : a.tmps[36]? = some (.slice (some ad223) l1.length c1) := by rw [ha]; exact (putSel_off rfl).trans rfl
                        have e37 : a.tmps[37]? = some (.int .i64 x6_2) := by rw [ha]; exact (putSel_off rfl).trans rfl
                        replace ha := Aside0.mk ha
                        have HB := Aside0.mk Q_HB
                        have hs2_ : w'.cell? (ad223.add ((x6_2).toNat * 3)) = some (.bool ((rd_T23 l1 x6_2).f0)) := ((HB.out.cell (World.block_lt_of_cell? w _ hw223_0)).trans hw223_0)
                        have hs3_ : w'.cell? ⟨(ad223.add ((x6_2).toNat * 3)).block, (ad223.add ((x6_2).toNat * 3)).off + 1, none⟩ = some (.int .i64 ((rd_T23 l1 x6_2).f1)) := ((HB.out.cell (World.block_lt_of_cell? w _ hw223_1)).trans hw223_1)
                        have hs4_ : w'.cell? ⟨(ad223.add ((x6_2).toNat * 3)).block, (ad223.add ((x6_2).toNat * 3)).off + 2, none⟩ = some (.string ((rd_T23 l1 x6_2).f2)) := ((HB.out.cell (World.block_lt_of_cell? w _ hw223_2)).trans hw223_2)
                        refine value_ (w1 := w') (v := .pointer (some (ad223.add ((x6_2).toNat * 3)))) (by rfl) rfl ?_ ?_
                        · go_simp
                          (try simp only [i64_w])
                          try rfl
                        refine hK.out _ _ ⟨v221, v225, (by rw [ha.out]; exact putSel_upk 5 hb_ rfl rfl rfl), Q_HB, Q_HO222, fun h0_ => absurd ((hoff 11 (by kernel_rfl)).symm.trans h0_) (by decide)⟩
                      refine steps_cons ?_ ?_
                      · rintro b a w' ⟨v221, v225, ha, Q_HB, Q_HO222, Q_HO226⟩ hb_ hon hoff
                        refine ⟨_, rfl, fun K hK => ?_⟩
                        have e38 : a.tmps[38]? = some (.pointer (some (ad223.add ((x6_2).toNat * 3)))) := by rw [ha]; exact putSel_on (e := (9, 38, .pointer (some (ad223.add ((x6_2).toNat * 3))))) 5 rfl rfl (hon 9 (by kernel_rfl)) rfl
                        replace ha := Aside0.mk ha
                        have HB := Aside0.mk Q_HB
                        have hs2_ : w'.cell? (ad223.add ((x6_2).toNat * 3)) = some (.bool ((rd_T23 l1 x6_2).f0)) := ((HB.out.cell (World.block_lt_of_cell? w _ hw223_0)).trans hw223_0)
                        have hs3_ : w'.cell? ⟨(ad223.add ((x6_2).toNat * 3)).block, (ad223.add ((x6_2).toNat * 3)).off + 1, none⟩ = some (.int .i64 ((rd_T23 l1 x6_2).f1)) := ((HB.out.cell (World.block_lt_of_cell? w _ hw223_1)).trans hw223_1)
                        have hs4_ : w'.cell? ⟨(ad223.add ((x6_2).toNat * 3)).block, (ad223.add ((x6_2).toNat * 3)).off + 2, none⟩ = some (.string ((rd_T23 l1 x6_2).f2)) := ((HB.out.cell (World.block_lt_of_cell? w _ hw223_2)).trans hw223_2)
                        refine value_ (w1 := w') (v := .agg #[.bool ((rd_T23 l1 x6_2).f0), .int .i64 ((rd_T23 l1 x6_2).f1), .string ((rd_T23 l1 x6_2).f2)]) (by rfl) rfl ?_ ?_
                        · go_simp
                          (try simp only [i64_w])
                          try rfl
                        refine hK.out _ _ ⟨v221, v225, (by rw [ha.out]; exact putSel_upk 6 hb_ rfl rfl rfl), Q_HB, Q_HO222, fun h0_ => absurd ((hoff 11 (by kernel_rfl)).symm.trans h0_) (by decide)⟩
                      refine steps_cons ?_ ?_
                      · rintro b a w' ⟨v221, v225, ha, Q_HB, Q_HO222, Q_HO226⟩ hb_ hon hoff
                        refine ⟨_, rfl, fun K hK => ?_⟩
                        have e35 : a.tmps[35]? = some (.agg #[.bool false, .int .i64 1, .string (⟨#[]⟩ : ByteArray)]) := by rw [ha]; exact putSel_on (e := (6, 35, .agg #[.bool false, .int .i64 1, .string (⟨#[]⟩ : ByteArray)])) 4 rfl rfl (hon 6 (by kernel_rfl)) rfl
                        have e39 : a.tmps[39]? = some (.agg #[.bool ((rd_T23 l1 x6_2).f0), .int .i64 ((rd_T23 l1 x6_2).f1), .string ((rd_T23 l1 x6_2).f2)]) := by rw [ha]; exact putSel_on (e := (10, 39, .agg #[.bool ((rd_T23 l1 x6_2).f0), .int .i64 ((rd_T23 l1 x6_2).f1), .string ((rd_T23 l1 x6_2).f2)])) 6 rfl rfl (hon 10 (by kernel_rfl)) rfl
                        replace ha := Aside0.mk ha
                        have HB := Aside0.mk Q_HB
                        refine Kd.R_lit_step k23 _ 23 ?hg (N := 40) ?hd (xs := ([(⟨false, 1, (⟨#[]⟩ : ByteArray)⟩ : S23), (⟨(rd_T23 l1 x6_2).f0, (rd_T23 l1 x6_2).f1, (rd_T23 l1 x6_2).f2⟩ : S23)] : List (S23))) (inner := [.bool false, .int .i64 1, .string (⟨#[]⟩ : ByteArray), .bool ((rd_T23 l1 x6_2).f0), .int .i64 ((rd_T23 l1 x6_2).f1), .string ((rd_T23 l1 x6_2).f2)]) (ok := fun _ => True) (okp := fun _ => True) ?hr ?hp (fun _ hk => hk) trivial (Below.refl _ _) (Nat.le_refl _) (by simp) ?_; (case hd => rfl); (case hg => rfl); (case hr => first | (go_simp; done) | (go_simp; rfl)); (case hp => exact (Reps.c3 (show Kd.M k23 _ _ _ (⟨false, 1, (⟨#[]⟩ : ByteArray)⟩ : S23) [.bool false, .int .i64 1, .string (⟨#[]⟩ : ByteArray)] from (k23_mkM _ _ _ (⟨false, 1, (⟨#[]⟩ : ByteArray)⟩ : S23) )) (Reps.c3 (show Kd.M k23 _ _ _ (⟨(rd_T23 l1 x6_2).f0, (rd_T23 l1 x6_2).f1, (rd_T23 l1 x6_2).f2⟩ : S23) [.bool ((rd_T23 l1 x6_2).f0), .int .i64 ((rd_T23 l1 x6_2).f1), .string ((rd_T23 l1 x6_2).f2)] from (k23_mkM _ _ _ (⟨(rd_T23 l1 x6_2).f0, (rd_T23 l1 x6_2).f1, (rd_T23 l1 x6_2).f2⟩ : S23) )) (Reps.none _ _))))
                        intro v225 w31 ho32 hb hg_ hnew_
                        clear hg_ hnew_
                        (first | rw [← Ny224.out] at ho32 | (simp only [Int.reduceToNat] at ho32; rw [← Ny224.out] at ho32))
                        have n0_ := Aside0.mk (Kd.R_lower ho32 (below_size (by repeat (first | (with_reducible first | exact HB.out | apply below_alloc | apply pw_below_drewN | apply below_drew1) | exact HB.out))))
                        have n1_ := Aside0.mk (below_step (by repeat (first | (with_reducible first | exact HB.out | apply below_alloc | apply pw_below_drewN | apply below_drew1) | exact HB.out)) hb)
                        have z_HO222 := fun (h0_ : b 5 = true) => (show Kd.R k42 42 w31 w.heap.size (fun _ => True) v221 y220 from by first | exact (Kd.R_below (by (with_reducible repeat (first | apply Kd.R_alloc | apply Kd.R_drewN | apply Kd.R_drew)); exact (Q_HO222 h0_)) hb) | exact Kd.R_mono (Kd.R_below (by (with_reducible repeat (first | apply Kd.R_alloc | apply Kd.R_drewN | apply Kd.R_drew)); exact (Q_HO222 h0_)) hb) (fun _ h_ => by first | trivial | exact h_ | exact h_.1))
                        clear HB
                        have HO226 := n0_
                        have HB := n1_
                        clear n0_ n1_
                        clear hb ho32
                        refine hK.out _ _ ⟨v221, v225, (by rw [ha.out]; exact putSel_upk 7 hb_ rfl rfl rfl), (by repeat (first | (with_reducible first | exact HB.out | apply below_alloc | apply pw_below_drewN | apply below_drew1) | exact HB.out)), z_HO222, fun _ => (by (with_reducible repeat (first | apply Kd.R_alloc | apply Kd.R_drewN | apply Kd.R_drew)); exact HO226.out)⟩
                      refine steps_cons ?_ ?_
                      · rintro b a w' ⟨v221, v225, ha, Q_HB, Q_HO222, Q_HO226⟩ hb_ hon hoff
                        refine ⟨_, rfl, fun K hK => ?_⟩
                        have e34 : a.tmps[34]? = some (v221) := by rw [ha]; exact putSel_on (e := (5, 34, v221)) 3 rfl rfl (hon 5 (by kernel_rfl)) rfl
                        have e40 : a.tmps[40]? = some (v225) := by rw [ha]; exact putSel_on (e := (11, 40, v225)) 7 rfl rfl (hon 11 (by kernel_rfl)) rfl
                        replace ha := Aside0.mk ha
                        have HB := Aside0.mk Q_HB
                        have HO222 := Aside0.mk (Q_HO222 (hon 5 (by kernel_rfl)))
                        have HO226 := Aside0.mk (Q_HO226 (hon 11 (by kernel_rfl)))
                        obtain ⟨Ao36, co36, eo36⟩ := Kd.R_slice HO222.out
                        (first | subst eo36 | (injection eo36 with f1_ f2_ f3_; have f4_ := f1_.symm; have f5_ := f3_.symm; clear f1_ f2_ f3_; subst f4_; subst f5_))
                        obtain ⟨Ao37, co37, eo37⟩ := Kd.R_slice HO226.out
                        (first | subst eo37 | (injection eo37 with f1_ f2_ f3_; have f4_ := f1_.symm; have f5_ := f3_.symm; clear f1_ f2_ f3_; subst f4_; subst f5_))
                        refine goes_ Try.func22 (by kernel_rfl) rfl #[.slice Ao36 y220.length co36, .slice Ao37 y224.length co37] (by rfl) rfl rfl (by first | (simp only [List.map_toArray, List.map_cons, List.map_nil, Act.eval, Array.getD_eq_getD_getElem?, Option.getD_some, e34, e40]; done) | (simp only [List.map_toArray, List.map_cons, List.map_nil, Act.eval, Array.getD_eq_getD_getElem?, Option.getD_some, e34, e40]; rfl)) ?_
                        with_reducible refine (kinds_Fits_c.calls _ _ y220 _ _ y224 t227 _ ?side1 ?side2 ?side3 ?side4 A19.out).mono ?_
                        (case side1 => repeat (first | exact (Kd.R_reads' HO222.out).2.2 | (with_reducible refine Kd.C_alloc ?_ _) | (with_reducible refine Kd.C_drewN ?_ _) | (with_reducible refine Kd.C_drew ?_)))
                        (case side2 => exact (Kd.R_reads' HO222.out).2.1)
                        (case side3 => repeat (first | exact (Kd.R_reads' HO226.out).2.2 | (with_reducible refine Kd.C_alloc ?_ _) | (with_reducible refine Kd.C_drewN ?_ _) | (with_reducible refine Kd.C_drew ?_)))
                        (case side4 => exact (Kd.R_reads' HO226.out).2.1)
                        rintro e w38 ⟨rfl, hb⟩
                        refine ⟨_, rfl, ?_⟩
                        have n0_ := Aside0.mk (Kd.R_below (by (with_reducible repeat (first | apply Kd.R_alloc | apply Kd.R_drewN | apply Kd.R_drew)); exact HO222.out) hb)
                        have n1_ := Aside0.mk (Kd.R_below (by (with_reducible repeat (first | apply Kd.R_alloc | apply Kd.R_drewN | apply Kd.R_drew)); exact HO226.out) hb)
                        have n2_ := Aside0.mk (below_step (by repeat (first | (with_reducible first | exact HB.out | apply below_alloc | apply pw_below_drewN | apply below_drew1) | exact HB.out)) hb)
                        clear HO222
                        clear HO226
                        clear HB
                        have HO222 := n0_
                        have HO226 := n1_
                        have HB := n2_
                        clear n0_ n1_ n2_
                        (try clear hb)
                        (try clear hb2)
                        (try clear hk)
                        (try clear hi)
                        refine hK.out _ _ ⟨.slice Ao36 y220.length co36, .slice Ao37 y224.length co37, (by rw [ha.out]; exact putSel_upk 8 hb_ rfl rfl rfl), (by repeat (first | (with_reducible first | exact HB.out | apply below_alloc | apply pw_below_drewN | apply below_drew1) | exact HB.out)), fun _ => (by (with_reducible repeat (first | apply Kd.R_alloc | apply Kd.R_drewN | apply Kd.R_drew)); exact HO222.out), fun _ => (by (with_reducible repeat (first | apply Kd.R_alloc | apply Kd.R_drewN | apply Kd.R_drew)); exact HO226.out)⟩
                      refine steps_cons ?_ ?_
                      · rintro b a w' ⟨v221, v225, ha, Q_HB, Q_HO222, Q_HO226⟩ hb_ hon hoff
                        refine ⟨_, rfl, fun K hK => ?_⟩
                        have e41 : a.tmps[41]? = some (.int .i64 t227) := by rw [ha]; exact putSel_on (e := (12, 41, .int .i64 t227)) 8 rfl rfl (hon 12 (by kernel_rfl)) rfl
                        replace ha := Aside0.mk ha
                        have HB := Aside0.mk Q_HB
                        have HO222 := Aside0.mk (Q_HO222 (hon 5 (by kernel_rfl)))
                        have HO226 := Aside0.mk (Q_HO226 (hon 11 (by kernel_rfl)))
                        refine value_ (w1 := w') (v := .int .i64 t227) (by rfl) rfl ?_ ?_
                        · go_simp
                          (try simp only [i64_w])
                          try rfl
                        refine hK.out _ _ ⟨v221, v225, (by rw [ha.out]; exact putSel_upk 9 hb_ rfl rfl rfl), Q_HB, Q_HO222, Q_HO226⟩
                      exact steps_nil
                    rintro b a w38 hall ⟨v221, v225, ha, Q_HB, Q_HO222, Q_HO226⟩
                    clear HB
                    have hb0_ := hall 0 (by kernel_rfl)
                    have hb3_ := hall 3 (by kernel_rfl)
                    have hb4_ := hall 4 (by kernel_rfl)
                    have hb5_ := hall 5 (by kernel_rfl)
                    have hb6_ := hall 6 (by kernel_rfl)
                    have hb9_ := hall 9 (by kernel_rfl)
                    have hb10_ := hall 10 (by kernel_rfl)
                    have hb11_ := hall 11 (by kernel_rfl)
                    have hb12_ := hall 12 (by kernel_rfl)
                    have hb13_ := hall 13 (by kernel_rfl)
                    subst ha
                    simp only [putSel, hb0_, hb3_, hb4_, hb5_, hb6_, hb9_, hb10_, hb11_, hb12_, hb13_, if_true, Act.put, List.setIfInBounds_toArray, List.set_cons_zero, List.set_cons_succ]
                    have HB := Aside0.mk Q_HB
                    clear Q_HB
                    have HO222 := Aside0.mk (Q_HO222 hb5_)
                    clear Q_HO222
                    have HO226 := Aside0.mk (Q_HO226 hb11_)
                    clear Q_HO226
                    clear hall hb0_ hb3_ hb4_ hb5_ hb6_ hb9_ hb10_ hb11_ hb12_ hb13_
                    try go_wp2
                    go_roundg k2
                    case measure => have := HJ2.out; have := HK2.out; omega
                    case rel => exact ⟨(t227), (wrap64 (x6_2 + 1)), (by first | rfl | (simp; done) | (simp [*]; done)), (by first | rfl | (simp; done) | (simp [*]; done)), H', ⟨by have := HJ2.out; have := HK2.out; omega⟩, ⟨by repeat (first | (with_reducible first | exact HB.out | apply below_alloc | apply pw_below_drewN | apply below_drew1) | exact HB.out)⟩⟩
                · rw [if_neg c18] at H
                  exact absurd H (by simp)
              · rw [if_neg c17] at H
                exact absurd H (by simp)
            · rw [if_neg c16] at H
              have c16b0 : decide (x6_2 < (l0.length : Int)) = false := decide_eq_false c16
              clear c16
              replace H := Option.bind_eq_some_iff.mp H
              obtain ⟨t228, A390, H⟩ := H
              replace H : (if t228 = x5_2 then (if 0 < (l1.length : Int) then ((kinds_Key_c.f l0 ((rd_T23 l1 0).f0) ((rd_T23 l1 0).f1) ((rd_T23 l1 0).f2)).bind fun t230 => (if t230 = 0 then (some true) else (some (x5_2 == 6)))) else (none)) else (some false)) = some r := H
              have A39 := Aside0.mk A390
              clear A390
              by_cases c40 : t228 = x5_2
              · rw [if_pos c40] at H
                have c40b0 : (t228 == x5_2) = true := beq_iff_eq.mpr c40
                have c40b1 : (t228 != x5_2) = false := bne_eq_false_iff_eq.mpr c40
                clear c40
                by_cases c41 : 0 < (l1.length : Int)
                · rw [if_pos c41] at H
                  have c41b0 : decide (0 < (l1.length : Int)) = true := decide_eq_true c41
                  have c41b1 : decide (0 < l1.length) = true := decide_eq_true (by omega)
                  clear c41
                  replace H := Option.bind_eq_some_iff.mp H
                  obtain ⟨t230, A420, H⟩ := H
                  replace H : (if t230 = 0 then (some true) else (some (x5_2 == 6))) = some r := H
                  have A42 := Aside0.mk A420
                  clear A420
                  by_cases c43 : t230 = 0
                  · rw [if_pos c43] at H
                    have c43b0 : (t230 == 0) = true := beq_iff_eq.mpr c43
                    have c43b1 : (t230 != 0) = false := bne_eq_false_iff_eq.mpr c43
                    clear c43
                    obtain rfl := Option.some.inj H
                    go_wp2_with (first | ((with_reducible refine gate_callee (f := 22) rfl ?_); refine goesL_ (some 47) rfl rfl Try.func22 (by kernel_rfl) rfl #[.slice A0 l0.length c0, .slice A1 l1.length c1] rfl (by (try simp only [List.map_toArray, List.map_cons, List.map_nil]); first | done | rfl | (simp only [List.length_drop, List.length_take]; rfl)) ?_; (with_reducible refine (kinds_Fits_c.calls _ _ l0 _ _ l1 t228 _ ?side1 ?side2 ?side3 ?side4 A39.out).mono ?_); (case side1 => repeat (first | exact (Kd.C_below HR0.out HB.out) | (with_reducible refine Kd.C_alloc ?_ _) | (with_reducible refine Kd.C_drewN ?_ _) | (with_reducible refine Kd.C_drew ?_))); (case side2 => exact HC0.out); (case side3 => repeat (first | exact (Kd.C_below HR1.out HB.out) | (with_reducible refine Kd.C_alloc ?_ _) | (with_reducible refine Kd.C_drewN ?_ _) | (with_reducible refine Kd.C_drew ?_))); (case side4 => exact HC1.out); rintro e w44 ⟨rfl, hb⟩; refine ⟨_, rfl, ?_⟩; have n0_ := Aside0.mk (below_step (by repeat (first | (with_reducible first | exact HB.out | apply below_alloc | apply pw_below_drewN | apply below_drew1) | exact HB.out)) hb); clear HB; have HB := n0_; clear n0_; (try clear hb); (try clear hb2); (try clear hk); (try clear hi); have p229 : 0 ≤ (0 : Int) := (by omega); have q229 : 0 < (l1.length : Int) := of_decide_eq_true (by first | (with_reducible assumption) | assumption); obtain ⟨ad229, e229, hx229_0, hx229_1, hx229_2⟩ := at_T23 HR1.out 0 p229 q229; cases e229; have qi229 : (0 < l1.length) = True := eq_true (by omega); (try rw [show ((0 : Int)).toNat = 0 from rfl] at hx229_0); (try rw [show 0 * 3 = 0 from rfl] at hx229_0); (try rw [Addr.add_zero'] at hx229_0); (try rw [show ((0 : Int)).toNat = 0 from rfl] at hx229_1); (try rw [show 0 * 3 = 0 from rfl] at hx229_1); (try rw [Addr.add_zero'] at hx229_1); (try rw [show ((0 : Int)).toNat = 0 from rfl] at hx229_2); (try rw [show 0 * 3 = 0 from rfl] at hx229_2); (try rw [Addr.add_zero'] at hx229_2); replace hx229_0 := (HB.out.cell (World.block_lt_of_cell? w _ hx229_0)).trans hx229_0; replace hx229_1 := (HB.out.cell (World.block_lt_of_cell? w _ hx229_1)).trans hx229_1; replace hx229_2 := (HB.out.cell (World.block_lt_of_cell? w _ hx229_2)).trans hx229_2; replace p229 := eq_true p229; replace q229 := eq_true q229) | (go_at_call 24; (with_reducible refine (kinds_Key_c.calls _ _ l0 ((rd_T23 l1 0).f0) ((rd_T23 l1 0).f1) ((rd_T23 l1 0).f2) t230 _ ?side1 ?side2 A42.out).mono ?_); (case side1 => repeat (first | exact (Kd.C_below HR0.out HB.out) | (with_reducible refine Kd.C_alloc ?_ _) | (with_reducible refine Kd.C_drewN ?_ _) | (with_reducible refine Kd.C_drew ?_))); (case side2 => exact HC0.out); rintro e w45 ⟨rfl, hb⟩; have n0_ := Aside0.mk (below_step (by repeat (first | (with_reducible first | exact HB.out | apply below_alloc | apply pw_below_drewN | apply below_drew1) | exact HB.out)) hb); clear HB; have HB := n0_; clear n0_; (try clear hb); (try clear hb2); (try clear hk); (try clear hi)))
                    go_ret
                    exact ⟨by first | rfl | (simp [errW_none, errW_some] <;> rfl) | (simp [*, errW_none, errW_some] <;> rfl), by repeat (first | (with_reducible first | exact HB.out | apply below_alloc | apply pw_below_drewN | apply below_drew1) | exact HB.out)⟩
                  · rw [if_neg c43] at H
                    have c43b0 : (t230 == 0) = false := beq_eq_false_iff_ne.mpr c43
                    have c43b1 : (t230 != 0) = true := bne_iff_ne.mpr c43
                    obtain rfl := Option.some.inj H
                    go_wp2_with (first | ((with_reducible refine gate_callee (f := 22) rfl ?_); refine goesL_ (some 47) rfl rfl Try.func22 (by kernel_rfl) rfl #[.slice A0 l0.length c0, .slice A1 l1.length c1] rfl (by (try simp only [List.map_toArray, List.map_cons, List.map_nil]); first | done | rfl | (simp only [List.length_drop, List.length_take]; rfl)) ?_; (with_reducible refine (kinds_Fits_c.calls _ _ l0 _ _ l1 t228 _ ?side1 ?side2 ?side3 ?side4 A39.out).mono ?_); (case side1 => repeat (first | exact (Kd.C_below HR0.out HB.out) | (with_reducible refine Kd.C_alloc ?_ _) | (with_reducible refine Kd.C_drewN ?_ _) | (with_reducible refine Kd.C_drew ?_))); (case side2 => exact HC0.out); (case side3 => repeat (first | exact (Kd.C_below HR1.out HB.out) | (with_reducible refine Kd.C_alloc ?_ _) | (with_reducible refine Kd.C_drewN ?_ _) | (with_reducible refine Kd.C_drew ?_))); (case side4 => exact HC1.out); rintro e w46 ⟨rfl, hb⟩; refine ⟨_, rfl, ?_⟩; have n0_ := Aside0.mk (below_step (by repeat (first | (with_reducible first | exact HB.out | apply below_alloc | apply pw_below_drewN | apply below_drew1) | exact HB.out)) hb); clear HB; have HB := n0_; clear n0_; (try clear hb); (try clear hb2); (try clear hk); (try clear hi); have p229 : 0 ≤ (0 : Int) := (by omega); have q229 : 0 < (l1.length : Int) := of_decide_eq_true (by first | (with_reducible assumption) | assumption); obtain ⟨ad229, e229, hx229_0, hx229_1, hx229_2⟩ := at_T23 HR1.out 0 p229 q229; cases e229; have qi229 : (0 < l1.length) = True := eq_true (by omega); (try rw [show ((0 : Int)).toNat = 0 from rfl] at hx229_0); (try rw [show 0 * 3 = 0 from rfl] at hx229_0); (try rw [Addr.add_zero'] at hx229_0); (try rw [show ((0 : Int)).toNat = 0 from rfl] at hx229_1); (try rw [show 0 * 3 = 0 from rfl] at hx229_1); (try rw [Addr.add_zero'] at hx229_1); (try rw [show ((0 : Int)).toNat = 0 from rfl] at hx229_2); (try rw [show 0 * 3 = 0 from rfl] at hx229_2); (try rw [Addr.add_zero'] at hx229_2); replace hx229_0 := (HB.out.cell (World.block_lt_of_cell? w _ hx229_0)).trans hx229_0; replace hx229_1 := (HB.out.cell (World.block_lt_of_cell? w _ hx229_1)).trans hx229_1; replace hx229_2 := (HB.out.cell (World.block_lt_of_cell? w _ hx229_2)).trans hx229_2; replace p229 := eq_true p229; replace q229 := eq_true q229) | (go_at_call 24; (with_reducible refine (kinds_Key_c.calls _ _ l0 ((rd_T23 l1 0).f0) ((rd_T23 l1 0).f1) ((rd_T23 l1 0).f2) t230 _ ?side1 ?side2 A42.out).mono ?_); (case side1 => repeat (first | exact (Kd.C_below HR0.out HB.out) | (with_reducible refine Kd.C_alloc ?_ _) | (with_reducible refine Kd.C_drewN ?_ _) | (with_reducible refine Kd.C_drew ?_))); (case side2 => exact HC0.out); rintro e w47 ⟨rfl, hb⟩; have n0_ := Aside0.mk (below_step (by repeat (first | (with_reducible first | exact HB.out | apply below_alloc | apply pw_below_drewN | apply below_drew1) | exact HB.out)) hb); clear HB; have HB := n0_; clear n0_; (try clear hb); (try clear hb2); (try clear hk); (try clear hi)))
                    go_ret
                    exact ⟨by first | rfl | (simp [errW_none, errW_some] <;> rfl) | (simp [*, errW_none, errW_some] <;> rfl), by repeat (first | (with_reducible first | exact HB.out | apply below_alloc | apply pw_below_drewN | apply below_drew1) | exact HB.out)⟩
                · rw [if_neg c41] at H
                  exact absurd H (by simp)
              · rw [if_neg c40] at H
                have c40b0 : (t228 == x5_2) = false := beq_eq_false_iff_ne.mpr c40
                have c40b1 : (t228 != x5_2) = true := bne_iff_ne.mpr c40
                obtain rfl := Option.some.inj H
                go_wp2_with (first | ((with_reducible refine gate_callee (f := 22) rfl ?_); refine goesL_ (some 47) rfl rfl Try.func22 (by kernel_rfl) rfl #[.slice A0 l0.length c0, .slice A1 l1.length c1] rfl (by (try simp only [List.map_toArray, List.map_cons, List.map_nil]); first | done | rfl | (simp only [List.length_drop, List.length_take]; rfl)) ?_; (with_reducible refine (kinds_Fits_c.calls _ _ l0 _ _ l1 t228 _ ?side1 ?side2 ?side3 ?side4 A39.out).mono ?_); (case side1 => repeat (first | exact (Kd.C_below HR0.out HB.out) | (with_reducible refine Kd.C_alloc ?_ _) | (with_reducible refine Kd.C_drewN ?_ _) | (with_reducible refine Kd.C_drew ?_))); (case side2 => exact HC0.out); (case side3 => repeat (first | exact (Kd.C_below HR1.out HB.out) | (with_reducible refine Kd.C_alloc ?_ _) | (with_reducible refine Kd.C_drewN ?_ _) | (with_reducible refine Kd.C_drew ?_))); (case side4 => exact HC1.out); rintro e w48 ⟨rfl, hb⟩; refine ⟨_, rfl, ?_⟩; have n0_ := Aside0.mk (below_step (by repeat (first | (with_reducible first | exact HB.out | apply below_alloc | apply pw_below_drewN | apply below_drew1) | exact HB.out)) hb); clear HB; have HB := n0_; clear n0_; (try clear hb); (try clear hb2); (try clear hk); (try clear hi)))
                go_ret
                exact ⟨by first | rfl | (simp [errW_none, errW_some] <;> rfl) | (simp [*, errW_none, errW_some] <;> rfl), by repeat (first | (with_reducible first | exact HB.out | apply below_alloc | apply pw_below_drewN | apply below_drew1) | exact HB.out)⟩

end Go.Proofs.Ytknkncidlfobiaa.Pr
