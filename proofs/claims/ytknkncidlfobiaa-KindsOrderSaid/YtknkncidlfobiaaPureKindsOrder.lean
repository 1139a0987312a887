/- The law KindsOrder: its walk, out of the contracts of what it calls. -/
import Derived.Test.YtknkncidlfobiaaRdk
import Derived.Test.YtknkncidlfobiaaPr0
import Derived.Test.YtknkncidlfobiaaPrf15
import Derived.Test.YtknkncidlfobiaaPrf16
import Derived.Test.YtknkncidlfobiaaPrf4
import Derived.Test.YtknkncidlfobiaaThy
namespace Go.Proofs.Ytknkncidlfobiaa.Pr
open Go.RowKit Go.Proofs.Ytknkncidlfobiaa.Brid Go.Proofs.YtknkncidlfobiaaW.PrintWords Go.Proofs.YtknkncidlfobiaaW.PrintLast Go.Proofs.YtknkncidlfobiaaW.PrintMore
set_option linter.unusedVariables false
set_option linter.unusedSimpArgs false
theorem order_j0 (x y z : Int) (s : Bool) (an : Bool) (ai : Int) (as_ : ByteArray) (bn : Bool) (bi : Int) (bs : ByteArray) (hx : -1 ≤ x ∧ x ≤ 1) (hb : Thy.cmpV bn bi bs an ai as_ = -x) (hs : (x == 0) = s)
    (h1 : x > 0 ∨ y > 0 ∨ z ≤ 0) (h2 : x ≥ 0 ∨ y > 0 ∨ z < 0) (h3 : x > 0 ∨ y ≥ 0 ∨ z < 0) : tithebarnlaw02_KindsOrder.j0 1 x y z s an ai as_ bn bi bs = some true := by
  have hw : wrap64 (-x) = -x := by unfold wrap64; omega
  subst hs
  simp only [tithebarnlaw02_KindsOrder.j0, kinds_Compare_c.f, Option.bind_some, hb, hw, if_true, beq_self_eq_true]
  have e1 : x ≥ -1 := hx.1
  have e2 : decide (x ≤ 1) = true := decide_eq_true hx.2
  simp only [if_pos e1, e2]
  by_cases p1 : x > 0
  · simp only [if_pos p1, if_pos (show x ≥ 0 by omega)]
  · simp only [if_neg p1]
    by_cases p2 : y > 0
    · simp only [if_pos p2, if_pos (show y ≥ 0 by omega)]
      by_cases p3 : x ≥ 0
      · simp only [if_pos p3]
      · simp only [if_neg p3]
    · simp only [if_neg p2]
      have p4 : z ≤ 0 := by omega
      simp only [if_pos p4]
      by_cases p3 : x ≥ 0
      · simp only [if_pos p3]
        by_cases p5 : y ≥ 0
        · simp only [if_pos p5]
        · have p6 : z < 0 := by omega
          simp only [if_neg p5, if_pos p6]
      · have p6 : z < 0 := by omega
        simp only [if_neg p3, if_pos p6]
        by_cases p5 : y ≥ 0
        · simp only [if_pos p5]
        · simp only [if_neg p5]
theorem KindsOrder_walk (W : World) (x0 : S23) (b0 : B23 x0 maxLen) (x1 : S23) (b1 : B23 x1 maxLen) (x2 : S23) (b2 : B23 x2 maxLen) :
    Calls Try.prog 4 #[.agg #[.bool x0.f0, .int .i64 x0.f1, .string x0.f2], .agg #[.bool x1.f0, .int .i64 x1.f1, .string x1.f2], .agg #[.bool x2.f0, .int .i64 x2.f1, .string x2.f2]] W fun e W' => e = .returned (.bool true) ∧ Below W.heap.size W W' := by
  refine tithebarnlaw02_KindsOrder.calls 1 x0.f0 x0.f1 x0.f2 x1.f0 x1.f1 x1.f2 x2.f0 x2.f1 x2.f2 true W ?_
  unfold tithebarnlaw02_KindsOrder.f tithebarnlaw02_lives_c.f kinds_Compare_c.f
  simp only [Option.bind_some, if_true]
  have hx := Thy.cmpV_range x0.f0 x0.f1 x0.f2 x1.f0 x1.f1 x1.f2
  have hb := Thy.cmpV_neg x0.f0 x0.f1 x0.f2 x1.f0 x1.f1 x1.f2
  have hz := @Thy.cmpV_zero x0.f0 x0.f1 x0.f2 x1.f0 x1.f1 x1.f2
  have gx := @Thy.cmpV_gt x0.f0 x0.f1 x0.f2 x1.f0 x1.f1 x1.f2
  have gy := @Thy.cmpV_gt x1.f0 x1.f1 x1.f2 x2.f0 x2.f1 x2.f2
  have gz := @Thy.cmpV_gt x0.f0 x0.f1 x0.f2 x2.f0 x2.f1 x2.f2
  have lx := @Thy.cmpV_lt x0.f0 x0.f1 x0.f2 x1.f0 x1.f1 x1.f2
  have ly := @Thy.cmpV_lt x1.f0 x1.f1 x1.f2 x2.f0 x2.f1 x2.f2
  have lz := @Thy.cmpV_lt x0.f0 x0.f1 x0.f2 x2.f0 x2.f1 x2.f2
  have T1 : Thy.cmpV x0.f0 x0.f1 x0.f2 x1.f0 x1.f1 x1.f2 > 0 ∨ Thy.cmpV x1.f0 x1.f1 x1.f2 x2.f0 x2.f1 x2.f2 > 0 ∨ Thy.cmpV x0.f0 x0.f1 x0.f2 x2.f0 x2.f1 x2.f2 ≤ 0 := by
    by_cases a : Thy.cmpV x0.f0 x0.f1 x0.f2 x1.f0 x1.f1 x1.f2 > 0
    · exact .inl a
    · by_cases b : Thy.cmpV x1.f0 x1.f1 x1.f2 x2.f0 x2.f1 x2.f2 > 0
      · exact .inr (.inl b)
      · refine .inr (.inr ?_)
        rw [gx, Bool.not_eq_true] at a
        rw [gy, Bool.not_eq_true] at b
        have := Thy.notless_trans b a
        by_cases c : Thy.cmpV x0.f0 x0.f1 x0.f2 x2.f0 x2.f1 x2.f2 > 0
        · rw [gz, this] at c; cases c
        · omega
  have T2 : Thy.cmpV x0.f0 x0.f1 x0.f2 x1.f0 x1.f1 x1.f2 ≥ 0 ∨ Thy.cmpV x1.f0 x1.f1 x1.f2 x2.f0 x2.f1 x2.f2 > 0 ∨ Thy.cmpV x0.f0 x0.f1 x0.f2 x2.f0 x2.f1 x2.f2 < 0 := by
    by_cases a : Thy.cmpV x0.f0 x0.f1 x0.f2 x1.f0 x1.f1 x1.f2 < 0
    · by_cases b : Thy.cmpV x1.f0 x1.f1 x1.f2 x2.f0 x2.f1 x2.f2 > 0
      · exact .inr (.inl b)
      · refine .inr (.inr ?_)
        rw [lx] at a
        rw [gy, Bool.not_eq_true] at b
        rw [lz]
        cases k : Thy.less x0.f0 x0.f1 x0.f2 x2.f0 x2.f1 x2.f2 with
        | true => rfl
        | false => have := Thy.notless_trans k b; rw [a] at this; cases this
    · exact .inl (by omega)
  have T3 : Thy.cmpV x0.f0 x0.f1 x0.f2 x1.f0 x1.f1 x1.f2 > 0 ∨ Thy.cmpV x1.f0 x1.f1 x1.f2 x2.f0 x2.f1 x2.f2 ≥ 0 ∨ Thy.cmpV x0.f0 x0.f1 x0.f2 x2.f0 x2.f1 x2.f2 < 0 := by
    by_cases a : Thy.cmpV x0.f0 x0.f1 x0.f2 x1.f0 x1.f1 x1.f2 > 0
    · exact .inl a
    · by_cases b : Thy.cmpV x1.f0 x1.f1 x1.f2 x2.f0 x2.f1 x2.f2 < 0
      · refine .inr (.inr ?_)
        rw [ly] at b
        rw [gx, Bool.not_eq_true] at a
        rw [lz]
        cases k : Thy.less x0.f0 x0.f1 x0.f2 x2.f0 x2.f1 x2.f2 with
        | true => rfl
        | false => have := Thy.notless_trans a k; rw [b] at this; cases this
      · exact .inr (.inl (by omega))
  clear gx gy gz lx ly lz
  have J := fun s hs => order_j0 _ _ _ s x0.f0 x0.f1 x0.f2 x1.f0 x1.f1 x1.f2 hx hb hs T1 T2 T3
  have Z : (Thy.cmpV x0.f0 x0.f1 x0.f2 x1.f0 x1.f1 x1.f2 == 0) = decide ((x0.f0 = true ∧ x1.f0 = true) ∨ (x0.f0 = false ∧ x1.f0 = false ∧ x0.f1 = x1.f1 ∧ x0.f2 = x1.f2)) := by
    rw [← decide_eq_decide.2 hz]; rfl
  rw [Z] at J
  by_cases e0 : x0.f0 = true
  · by_cases e1 : x1.f0 = true
    · rw [if_pos e0, if_pos e1]; exact J _ (decide_eq_true (.inl ⟨e0, e1⟩))
    · rw [if_pos e0, if_neg e1]; exact J _ (decide_eq_false (by rw [e0]; simp [e1]))
  · by_cases e1 : x1.f0 = true
    · rw [if_neg e0, if_pos e1]; exact J _ (decide_eq_false (by rw [e1]; simp [e0]))
    · have f0 : x0.f0 = false := by simpa using e0
      have f1 : x1.f0 = false := by simpa using e1
      rw [if_neg e0, if_neg e1]
      by_cases e2 : x0.f1 = x1.f1
      · rw [if_pos e2]
        refine J _ ?_
        rw [Bool.eq_iff_iff]
        simp only [decide_eq_true_eq, beq_iff_eq, f0, f1, e2]
        constructor
        · rintro (⟨h, _⟩ | ⟨_, _, _, h⟩)
          · cases h
          · rw [h]
        · intro h
          exact .inr ⟨trivial, trivial, trivial, Thy.toList_inj h⟩
      · rw [if_neg e2]; exact J _ (decide_eq_false (by rw [f0, f1]; simp [e2]))

end Go.Proofs.Ytknkncidlfobiaa.Pr
