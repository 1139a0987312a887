-- printed by xprint.py (this seat's own program, over the kit's print.py); not trusted: Lean checks it
import Derived.Test.YtknkncidlfobiaaPr0
import Derived.Test.YtknkncidlfobiaaPrf39xc
import Derived.Test.YtknkncidlfobiaaPrf20
import Derived.Test.YtknkncidlfobiaaThy
namespace Go.Proofs.Ytknkncidlfobiaa.Pr
open Go.RowKit Go.Proofs.YtknkncidlfobiaaW.PrintWords Go.Proofs.YtknkncidlfobiaaW.PrintLast Go.Proofs.YtknkncidlfobiaaW.PrintMore
attribute [local go_sem] max2_int min2_int max_two min_two max_three min_three max_four min_four   -- for this text's walks alone
set_option linter.unusedVariables false
set_option linter.unusedSimpArgs false

/-! ### tithebarnref02_Right: function 21 -/
def tithebarnref02_Right.l0 : Nat → List (S42) → Int → Option (Bool)
  | 0, _, _ => none
  | k + 1, x0, x3 => if x3 < (x0.length : Int) then (if 0 ≤ x3 then (if ((rd_T42 x0 x3).f0) = 1 then (if x3 = 0 then (if (rd_T42 x0 x3).f1 = true then (some false) else (tithebarnref02_Right.l0 k x0 (wrap64 (x3 + 1)))) else (tithebarnref02_Right.l0 k x0 (wrap64 (x3 + 1)))) else (if ((rd_T42 x0 x3).f0) = 2 then (if x3 = 0 then (if (rd_T42 x0 x3).f1 = true then (some false) else (tithebarnref02_Right.l0 k x0 (wrap64 (x3 + 1)))) else (tithebarnref02_Right.l0 k x0 (wrap64 (x3 + 1)))) else (some false))) else (none)) else (if (x0.length : Int) ≥ 1 then (some (decide ((x0.length : Int) ≤ 6))) else (some false))
def tithebarnref02_Right.f (k : Nat) (l0 : List (S42)) : Option (Bool) := tithebarnref02_Right.l0 k l0 0
theorem tithebarnref02_Right.mono_l : ∀ k, (∀ y0 y1, LeO (tithebarnref02_Right.l0 k y0 y1) (tithebarnref02_Right.l0 (k + 1) y0 y1))
  | 0 => fun _ _ r h => by simp [tithebarnref02_Right.l0] at h
  | k + 1 => by
    have ih0 := tithebarnref02_Right.mono_l k
    · intro y0 y1
      unfold tithebarnref02_Right.l0
      repeat' first
      | (with_reducible exact ih0 _ _)
      | (with_reducible exact LeO.refl _)
      | (with_reducible exact LeO.none _)
      | (with_reducible refine LeO.ite ?_ ?_)
      | (with_reducible refine LeO.bind ?_ (fun _ => ?_))
      | exact ih0 _ _
      | exact LeO.none _
      | refine LeO.ite ?_ ?_
      | refine LeO.bind ?_ (fun _ => ?_)
theorem tithebarnref02_Right.mono : ∀ a0 k, LeO (tithebarnref02_Right.f k a0) (tithebarnref02_Right.f (k + 1) a0) := by
  intro a0 k
  have ih0 := tithebarnref02_Right.mono_l k
  unfold tithebarnref02_Right.f
  repeat' first
      | (with_reducible exact ih0 _ _)
      | (with_reducible exact LeO.refl _)
      | (with_reducible exact LeO.none _)
      | (with_reducible refine LeO.ite ?_ ?_)
      | (with_reducible refine LeO.bind ?_ (fun _ => ?_))
      | exact ih0 _ _
      | exact LeO.none _
      | refine LeO.ite ?_ ?_
      | refine LeO.bind ?_ (fun _ => ?_)
set_option maxHeartbeats 8000000 in
set_option maxRecDepth 100000 in
theorem tithebarnref02_Right.calls (k : Nat) (A0 : Option Addr) (c0 : Nat) (l0 : List (S42)) (r : Bool) (w : World) (hr0 : Kd.C k42 w A0 l0.length l0) (hc0 : l0.length ≤ c0) (h : tithebarnref02_Right.f k l0 = some r) :
    Calls Try.prog 21 #[.slice A0 l0.length c0] w fun e w' => e = .returned (.bool r) ∧ Drawn0 w w' := by
  have HR0 := Aside0.mk hr0
  have HC0 := Aside0.mk hc0
  clear hr0 hc0
  have H : (tithebarnref02_Right.l0 k l0 0) = some r := h
  clear h
  have H' := Aside0.mk H
  clear H
  go_enter Try.func21, Try.ntmps21
  go_wp2
  go_loopg [3] k (fun kq v3 w' => ∃ (x3_1 : Int), v3 = .int .i64 x3_1 ∧ Aside0 (tithebarnref02_Right.l0 kq l0 x3_1 = some r) ∧ Aside0 (kq ≤ k) ∧ Drawn0 w w')
  case atStart => exact ⟨(0), (by first | rfl | (simp; done) | (simp [*]; done)), H', ⟨Nat.le_refl _⟩, by repeat (first | exact Drawn0.refl _ | apply Drawn0.step)⟩
  case round =>
    clear H'
    obtain ⟨x3_1, rfl, HA, HK1, ⟨m1, rfl⟩⟩ := hrel
    cases gk with
    | zero => exact absurd HA.out (by simp [tithebarnref02_Right.l0])
    | succ k1 =>
      have H := HA.out
      clear HA
      simp only [tithebarnref02_Right.l0] at H
      by_cases c2 : x3_1 < (l0.length : Int)
      · rw [if_pos c2] at H
        have c2b0 : decide (x3_1 < (l0.length : Int)) = true := decide_eq_true c2
        clear c2
        by_cases c3 : 0 ≤ x3_1
        · rw [if_pos c3] at H
          have c3b0 : decide (0 ≤ x3_1) = true := decide_eq_true c3
          clear c3
          by_cases c4 : ((rd_T42 l0 x3_1).f0) = 1
          · rw [if_pos c4] at H
            have c4b0 : (((rd_T42 l0 x3_1).f0) == 1) = true := beq_iff_eq.mpr c4
            have c4b1 : (((rd_T42 l0 x3_1).f0) != 1) = false := bne_eq_false_iff_eq.mpr c4
            clear c4
            by_cases c5 : x3_1 = 0
            · rw [if_pos c5] at H
              have c5b0 : (x3_1 == 0) = true := beq_iff_eq.mpr c5
              have c5b1 : (x3_1 != 0) = false := bne_eq_false_iff_eq.mpr c5
              clear c5
              obtain ⟨bq6, hbq6⟩ : ∃ b_ : Bool, b_ = ((rd_T42 l0 x3_1).f1) := ⟨_, rfl⟩
              replace H : (if bq6 = true then (some false) else (tithebarnref02_Right.l0 k1 l0 (wrap64 (x3_1 + 1)))) = some r := by rw [← hbq6] at H; exact H
              have Nbq6 := Aside0.mk hbq6
              clear hbq6
              by_cases c7 : bq6 = true
              · subst c7
                have H1 : (some false) = some r := by rw [if_pos rfl] at H; exact H
                clear H
                have H := H1
                clear H1
                obtain rfl := Option.some.inj H
                have p189 : 0 ≤ (x3_1 : Int) := of_decide_eq_true (by first | (with_reducible assumption) | assumption)
                have q189 : x3_1 < (l0.length : Int) := of_decide_eq_true (by first | (with_reducible assumption) | assumption)
                obtain ⟨ad189, e189, hx189_0, hx189_1⟩ := at_T42 HR0.out x3_1 p189 q189
                (try rw [← Nbq6.out] at hx189_1)
                cases e189
                replace p189 := eq_true p189
                replace q189 := eq_true q189
                have p190 : 0 ≤ (x3_1 : Int) := of_decide_eq_true (by first | (with_reducible assumption) | assumption)
                have q190 : x3_1 < (l0.length : Int) := of_decide_eq_true (by first | (with_reducible assumption) | assumption)
                obtain ⟨ad190, e190, hx190_0, hx190_1⟩ := at_T42 HR0.out x3_1 p190 q190
                (try rw [← Nbq6.out] at hx190_1)
                obtain rfl : ad189 = ad190 := (by injection e190)
                replace p190 := eq_true p190
                replace q190 := eq_true q190
                go_wp2
                go_ret
                exact ⟨by first | rfl | (simp; done) | (simp [*]; done), by repeat (first | exact Drawn0.refl _ | apply Drawn0.step)⟩
              · replace c7 := Bool.eq_false_iff.mpr c7
                subst c7
                have H1 : (tithebarnref02_Right.l0 k1 l0 (wrap64 (x3_1 + 1))) = some r := by rw [if_neg (show ¬ (false = true) by decide)] at H; exact H
                clear H
                have H := H1
                clear H1
                have H' := Aside0.mk H
                clear H
                have p189 : 0 ≤ (x3_1 : Int) := of_decide_eq_true (by first | (with_reducible assumption) | assumption)
                have q189 : x3_1 < (l0.length : Int) := of_decide_eq_true (by first | (with_reducible assumption) | assumption)
                obtain ⟨ad189, e189, hx189_0, hx189_1⟩ := at_T42 HR0.out x3_1 p189 q189
                (try rw [← Nbq6.out] at hx189_1)
                cases e189
                replace p189 := eq_true p189
                replace q189 := eq_true q189
                have p190 : 0 ≤ (x3_1 : Int) := of_decide_eq_true (by first | (with_reducible assumption) | assumption)
                have q190 : x3_1 < (l0.length : Int) := of_decide_eq_true (by first | (with_reducible assumption) | assumption)
                obtain ⟨ad190, e190, hx190_0, hx190_1⟩ := at_T42 HR0.out x3_1 p190 q190
                (try rw [← Nbq6.out] at hx190_1)
                obtain rfl : ad189 = ad190 := (by injection e190)
                replace p190 := eq_true p190
                replace q190 := eq_true q190
                go_wp2
                go_roundg k1
                case measure => have := HK1.out; omega
                case rel => exact ⟨(wrap64 (x3_1 + 1)), (by first | rfl | (simp; done) | (simp [*]; done)), H', ⟨by have := HK1.out; omega⟩, by repeat (first | exact Drawn0.refl _ | apply Drawn0.step)⟩
            · rw [if_neg c5] at H
              have c5b0 : (x3_1 == 0) = false := beq_eq_false_iff_ne.mpr c5
              have c5b1 : (x3_1 != 0) = true := bne_iff_ne.mpr c5
              have H' := Aside0.mk H
              clear H
              have p189 : 0 ≤ (x3_1 : Int) := of_decide_eq_true (by first | (with_reducible assumption) | assumption)
              have q189 : x3_1 < (l0.length : Int) := of_decide_eq_true (by first | (with_reducible assumption) | assumption)
              obtain ⟨ad189, e189, hx189_0, hx189_1⟩ := at_T42 HR0.out x3_1 p189 q189
              cases e189
              replace p189 := eq_true p189
              replace q189 := eq_true q189
              go_wp2
              go_roundg k1
              case measure => have := HK1.out; omega
              case rel => exact ⟨(wrap64 (x3_1 + 1)), (by first | rfl | (simp; done) | (simp [*]; done)), H', ⟨by have := HK1.out; omega⟩, by repeat (first | exact Drawn0.refl _ | apply Drawn0.step)⟩
          · rw [if_neg c4] at H
            have c4b0 : (((rd_T42 l0 x3_1).f0) == 1) = false := beq_eq_false_iff_ne.mpr c4
            have c4b1 : (((rd_T42 l0 x3_1).f0) != 1) = true := bne_iff_ne.mpr c4
            by_cases c8 : ((rd_T42 l0 x3_1).f0) = 2
            · rw [if_pos c8] at H
              have c8b0 : (((rd_T42 l0 x3_1).f0) == 2) = true := beq_iff_eq.mpr c8
              have c8b1 : (((rd_T42 l0 x3_1).f0) != 2) = false := bne_eq_false_iff_eq.mpr c8
              clear c8
              by_cases c9 : x3_1 = 0
              · rw [if_pos c9] at H
                have c9b0 : (x3_1 == 0) = true := beq_iff_eq.mpr c9
                have c9b1 : (x3_1 != 0) = false := bne_eq_false_iff_eq.mpr c9
                clear c9
                obtain ⟨bq10, hbq10⟩ : ∃ b_ : Bool, b_ = ((rd_T42 l0 x3_1).f1) := ⟨_, rfl⟩
                replace H : (if bq10 = true then (some false) else (tithebarnref02_Right.l0 k1 l0 (wrap64 (x3_1 + 1)))) = some r := by rw [← hbq10] at H; exact H
                have Nbq10 := Aside0.mk hbq10
                clear hbq10
                by_cases c11 : bq10 = true
                · subst c11
                  have H1 : (some false) = some r := by rw [if_pos rfl] at H; exact H
                  clear H
                  have H := H1
                  clear H1
                  obtain rfl := Option.some.inj H
                  have p189 : 0 ≤ (x3_1 : Int) := of_decide_eq_true (by first | (with_reducible assumption) | assumption)
                  have q189 : x3_1 < (l0.length : Int) := of_decide_eq_true (by first | (with_reducible assumption) | assumption)
                  obtain ⟨ad189, e189, hx189_0, hx189_1⟩ := at_T42 HR0.out x3_1 p189 q189
                  (try rw [← Nbq10.out] at hx189_1)
                  cases e189
                  replace p189 := eq_true p189
                  replace q189 := eq_true q189
                  have p191 : 0 ≤ (x3_1 : Int) := of_decide_eq_true (by first | (with_reducible assumption) | assumption)
                  have q191 : x3_1 < (l0.length : Int) := of_decide_eq_true (by first | (with_reducible assumption) | assumption)
                  obtain ⟨ad191, e191, hx191_0, hx191_1⟩ := at_T42 HR0.out x3_1 p191 q191
                  (try rw [← Nbq10.out] at hx191_1)
                  obtain rfl : ad189 = ad191 := (by injection e191)
                  replace p191 := eq_true p191
                  replace q191 := eq_true q191
                  have p192 : 0 ≤ (x3_1 : Int) := of_decide_eq_true (by first | (with_reducible assumption) | assumption)
                  have q192 : x3_1 < (l0.length : Int) := of_decide_eq_true (by first | (with_reducible assumption) | assumption)
                  obtain ⟨ad192, e192, hx192_0, hx192_1⟩ := at_T42 HR0.out x3_1 p192 q192
                  (try rw [← Nbq10.out] at hx192_1)
                  obtain rfl : ad189 = ad192 := (by injection e192)
                  replace p192 := eq_true p192
                  replace q192 := eq_true q192
                  go_wp2
                  go_ret
                  exact ⟨by first | rfl | (simp; done) | (simp [*]; done), by repeat (first | exact Drawn0.refl _ | apply Drawn0.step)⟩
                · replace c11 := Bool.eq_false_iff.mpr c11
                  subst c11
                  have H1 : (tithebarnref02_Right.l0 k1 l0 (wrap64 (x3_1 + 1))) = some r := by rw [if_neg (show ¬ (false = true) by decide)] at H; exact H
                  clear H
                  have H := H1
                  clear H1
                  have H' := Aside0.mk H
                  clear H
                  have p189 : 0 ≤ (x3_1 : Int) := of_decide_eq_true (by first | (with_reducible assumption) | assumption)
                  have q189 : x3_1 < (l0.length : Int) := of_decide_eq_true (by first | (with_reducible assumption) | assumption)
                  obtain ⟨ad189, e189, hx189_0, hx189_1⟩ := at_T42 HR0.out x3_1 p189 q189
                  (try rw [← Nbq10.out] at hx189_1)
                  cases e189
                  replace p189 := eq_true p189
                  replace q189 := eq_true q189
                  have p191 : 0 ≤ (x3_1 : Int) := of_decide_eq_true (by first | (with_reducible assumption) | assumption)
                  have q191 : x3_1 < (l0.length : Int) := of_decide_eq_true (by first | (with_reducible assumption) | assumption)
                  obtain ⟨ad191, e191, hx191_0, hx191_1⟩ := at_T42 HR0.out x3_1 p191 q191
                  (try rw [← Nbq10.out] at hx191_1)
                  obtain rfl : ad189 = ad191 := (by injection e191)
                  replace p191 := eq_true p191
                  replace q191 := eq_true q191
                  have p192 : 0 ≤ (x3_1 : Int) := of_decide_eq_true (by first | (with_reducible assumption) | assumption)
                  have q192 : x3_1 < (l0.length : Int) := of_decide_eq_true (by first | (with_reducible assumption) | assumption)
                  obtain ⟨ad192, e192, hx192_0, hx192_1⟩ := at_T42 HR0.out x3_1 p192 q192
                  (try rw [← Nbq10.out] at hx192_1)
                  obtain rfl : ad189 = ad192 := (by injection e192)
                  replace p192 := eq_true p192
                  replace q192 := eq_true q192
                  go_wp2
                  go_roundg k1
                  case measure => have := HK1.out; omega
                  case rel => exact ⟨(wrap64 (x3_1 + 1)), (by first | rfl | (simp; done) | (simp [*]; done)), H', ⟨by have := HK1.out; omega⟩, by repeat (first | exact Drawn0.refl _ | apply Drawn0.step)⟩
              · rw [if_neg c9] at H
                have c9b0 : (x3_1 == 0) = false := beq_eq_false_iff_ne.mpr c9
                have c9b1 : (x3_1 != 0) = true := bne_iff_ne.mpr c9
                have H' := Aside0.mk H
                clear H
                have p189 : 0 ≤ (x3_1 : Int) := of_decide_eq_true (by first | (with_reducible assumption) | assumption)
                have q189 : x3_1 < (l0.length : Int) := of_decide_eq_true (by first | (with_reducible assumption) | assumption)
                obtain ⟨ad189, e189, hx189_0, hx189_1⟩ := at_T42 HR0.out x3_1 p189 q189
                cases e189
                replace p189 := eq_true p189
                replace q189 := eq_true q189
                have p191 : 0 ≤ (x3_1 : Int) := of_decide_eq_true (by first | (with_reducible assumption) | assumption)
                have q191 : x3_1 < (l0.length : Int) := of_decide_eq_true (by first | (with_reducible assumption) | assumption)
                obtain ⟨ad191, e191, hx191_0, hx191_1⟩ := at_T42 HR0.out x3_1 p191 q191
                obtain rfl : ad189 = ad191 := (by injection e191)
                replace p191 := eq_true p191
                replace q191 := eq_true q191
                go_wp2
                go_roundg k1
                case measure => have := HK1.out; omega
                case rel => exact ⟨(wrap64 (x3_1 + 1)), (by first | rfl | (simp; done) | (simp [*]; done)), H', ⟨by have := HK1.out; omega⟩, by repeat (first | exact Drawn0.refl _ | apply Drawn0.step)⟩
            · rw [if_neg c8] at H
              have c8b0 : (((rd_T42 l0 x3_1).f0) == 2) = false := beq_eq_false_iff_ne.mpr c8
              have c8b1 : (((rd_T42 l0 x3_1).f0) != 2) = true := bne_iff_ne.mpr c8
              obtain rfl := Option.some.inj H
              have p189 : 0 ≤ (x3_1 : Int) := of_decide_eq_true (by first | (with_reducible assumption) | assumption)
              have q189 : x3_1 < (l0.length : Int) := of_decide_eq_true (by first | (with_reducible assumption) | assumption)
              obtain ⟨ad189, e189, hx189_0, hx189_1⟩ := at_T42 HR0.out x3_1 p189 q189
              cases e189
              replace p189 := eq_true p189
              replace q189 := eq_true q189
              have p191 : 0 ≤ (x3_1 : Int) := of_decide_eq_true (by first | (with_reducible assumption) | assumption)
              have q191 : x3_1 < (l0.length : Int) := of_decide_eq_true (by first | (with_reducible assumption) | assumption)
              obtain ⟨ad191, e191, hx191_0, hx191_1⟩ := at_T42 HR0.out x3_1 p191 q191
              obtain rfl : ad189 = ad191 := (by injection e191)
              replace p191 := eq_true p191
              replace q191 := eq_true q191
              go_wp2
              go_ret
              exact ⟨by first | rfl | (simp; done) | (simp [*]; done), by repeat (first | exact Drawn0.refl _ | apply Drawn0.step)⟩
        · rw [if_neg c3] at H
          exact absurd H (by simp)
      · rw [if_neg c2] at H
        have c2b0 : decide (x3_1 < (l0.length : Int)) = false := decide_eq_false c2
        clear c2
        by_cases c12 : (l0.length : Int) ≥ 1
        · rw [if_pos c12] at H
          have c12b0 : decide (1 ≤ (l0.length : Int)) = true := decide_eq_true c12
          have c12b1 : decide (1 ≤ l0.length) = true := decide_eq_true (by omega)
          clear c12
          obtain rfl := Option.some.inj H
          go_wp2
          go_ret
          exact ⟨by first | rfl | (simp; done) | (simp [*]; done), by repeat (first | exact Drawn0.refl _ | apply Drawn0.step)⟩
        · rw [if_neg c12] at H
          have c12b0 : decide (1 ≤ (l0.length : Int)) = false := decide_eq_false c12
          have c12b1 : decide (1 ≤ l0.length) = false := decide_eq_false (by omega)
          clear c12
          obtain rfl := Option.some.inj H
          go_wp2
          go_ret
          exact ⟨by first | rfl | (simp; done) | (simp [*]; done), by repeat (first | exact Drawn0.refl _ | apply Drawn0.step)⟩
/-! ### tithebarnref02_Right_c: function 21 -/
--@import Derived.Test.YtknkncidlfobiaaThy
theorem rdC_at (l : List S42) (n : Nat) (h : n < l.length) : rd_T42 l (n : Int) = l[n] := by
  simp [rd_T42, List.getD_eq_getElem?_getD, List.getElem?_eq_getElem h]
theorem wrap_nat (n m : Nat) (h : n < m) (hm : m ≤ 9223372036854775807) : wrap64 ((n : Int) + 1) = ((n + 1 : Nat) : Int) := by unfold wrap64; omega
theorem tithebarnref02_Right.tells (l : List S42) (hl : l.length ≤ 9223372036854775807) : ∀ (d k n : Nat), n + d = l.length → d < k →
    tithebarnref02_Right.l0 k l (n : Int) = some ((l.drop n).all (fun x => !odd x) && (if n = 0 then !(rd_T42 l 0).f1 else true) && decide (0 < l.length) && decide (l.length ≤ 6)) := by
  intro d
  induction d with
  | zero =>
    intro k n hn hk
    obtain ⟨k, rfl⟩ : ∃ m, k = m + 1 := ⟨k - 1, by omega⟩
    simp only [tithebarnref02_Right.l0]
    rw [if_neg (by omega), List.drop_eq_nil_of_le (by omega)]
    by_cases h1 : l.length = 0
    · rw [if_neg (by omega), decide_eq_false (by omega : ¬ 0 < l.length)]; simp
    · rw [if_pos (by omega : (l.length : Int) ≥ 1), decide_eq_true (by omega : 0 < l.length), if_neg (by omega)]
      simp
      omega
  | succ d ih =>
    intro k n hn hk
    obtain ⟨k, rfl⟩ : ∃ m, k = m + 1 := ⟨k - 1, by omega⟩
    have hlt : n < l.length := by omega
    simp only [tithebarnref02_Right.l0]
    rw [if_pos (by omega), if_pos (by omega), wrap_nat n l.length hlt hl, ih k (n + 1) (by omega) (by omega), if_neg (by omega : ¬ n + 1 = 0), List.drop_eq_getElem_cons hlt, List.all_cons, ← rdC_at l n hlt]
    generalize hr : (List.drop (n + 1) l).all (fun x => !odd x) = R
    by_cases h0 : n = 0
    · subst h0
      simp only [Int.natCast_zero, if_true, odd]
      generalize rd_T42 l 0 = y
      by_cases k1 : y.f0 = 1 <;> by_cases k2 : y.f0 = 2 <;> cases hy : y.f1 <;> simp [k1, k2]
    · have : ¬ ((n : Int) = 0) := by omega
      simp only [if_neg h0, if_neg this, odd]
      generalize rd_T42 l (n : Int) = y
      by_cases k1 : y.f0 = 1 <;> by_cases k2 : y.f0 = 2 <;> simp [k1, k2]
theorem tithebarnref02_Right.is (l : List S42) (hl : l.length ≤ 9223372036854775807) : tithebarnref02_Right.f (l.length + 1) l = some (rightB l) := by
  unfold tithebarnref02_Right.f
  have := tithebarnref02_Right.tells l hl l.length (l.length + 1) 0 (by omega) (by omega)
  rw [show ((0 : Nat) : Int) = 0 from rfl] at this
  rw [this]
  congr 1
  simp only [List.drop_zero, if_true, rightB, List.any_eq_not_all_not, Bool.not_not]
  cases (l.all fun x => !odd x) <;> cases (rd_T42 l 0).f1 <;> cases decide (0 < l.length) <;> cases decide (l.length ≤ 6) <;> rfl
def tithebarnref02_Right_c.f (l0 : List S42) : Option Bool := some (rightB l0)
theorem tithebarnref02_Right_c.calls (A0 : Option Addr) (c0 : Nat) (l0 : List S42) (r : Bool) (w : World) (hr0 : Kd.C k42 w A0 l0.length l0) (hc0 : l0.length ≤ c0) (h : tithebarnref02_Right_c.f l0 = some r) :
    Calls Try.prog 21 #[.slice A0 l0.length c0] w fun e w' => e = .returned (.bool r) ∧ Drawn0 w w' :=
  tithebarnref02_Right.calls _ A0 c0 l0 r w hr0 hc0 ((tithebarnref02_Right.is l0 hr0.2.1).trans h)


end Go.Proofs.Ytknkncidlfobiaa.Pr
