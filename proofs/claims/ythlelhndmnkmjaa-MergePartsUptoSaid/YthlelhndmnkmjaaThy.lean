import GoSem.Op.String
import Derived.Test.YthlelhndmnkmjaaWWords
namespace Go.Proofs.Ythlelhndmnkmjaa.Thy
open Go
theorem bl_nil (l : List UInt8) : Op.bytesLess l [] = false := by cases l <;> rfl
theorem bl_cons (a b : UInt8) (x y : List UInt8) : Op.bytesLess (a :: x) (b :: y) = (decide (a < b) || (a == b && Op.bytesLess x y)) := rfl
theorem bl_irrefl (l : List UInt8) : Op.bytesLess l l = false := by
  induction l with
  | nil => rfl
  | cons a l ih => rw [bl_cons, ih]; simp
theorem bl_trans : ∀ (a b c : List UInt8), Op.bytesLess a b = true → Op.bytesLess b c = true → Op.bytesLess a c = true
  | _, [], _, h, _ => by rw [bl_nil] at h; cases h
  | _, _ :: _, [], _, h => by rw [bl_nil] at h; cases h
  | [], _ :: _, _ :: _, _, _ => rfl
  | a :: x, b :: y, c :: z, h, k => by
    rw [bl_cons] at h k ⊢
    simp only [Bool.or_eq_true, Bool.and_eq_true, decide_eq_true_eq, beq_iff_eq] at h k ⊢
    rcases h with h | ⟨rfl, h⟩
    · rcases k with k | ⟨rfl, k⟩
      · exact .inl (by rw [UInt8.lt_iff_toNat_lt] at *; omega)
      · exact .inl h
    · rcases k with k | ⟨rfl, k⟩
      · exact .inl k
      · exact .inr ⟨rfl, bl_trans x y z h k⟩
theorem bl_total : ∀ (a b : List UInt8), Op.bytesLess a b = false → Op.bytesLess b a = false → a = b
  | [], [], _, _ => rfl
  | [], _ :: _, h, _ => by cases h
  | _ :: _, [], _, h => by cases h
  | a :: x, b :: y, h, k => by
    rw [bl_cons] at h k
    simp only [Bool.or_eq_false_iff, Bool.and_eq_false_iff, decide_eq_false_iff_not, beq_eq_false_iff_ne] at h k
    obtain ⟨h1, h2⟩ := h
    obtain ⟨k1, k2⟩ := k
    have e : a = b := by
      apply UInt8.toNat_inj.1
      rw [UInt8.lt_iff_toNat_lt] at h1 k1
      omega
    subst e
    have h3 : Op.bytesLess x y = false := by rcases h2 with h2 | h2; exact absurd rfl h2; exact h2
    have k3 : Op.bytesLess y x = false := by rcases k2 with k2 | k2; exact absurd rfl k2; exact k2
    rw [bl_total x y h3 k3]
theorem toList_inj {a b : ByteArray} (h : a.toList = b.toList) : a = b := by
  rw [ByteArray.toList_eq, ByteArray.toList_eq] at h
  cases a; cases b
  simp only [ByteArray.mk.injEq]
  exact Array.ext' h
theorem toList_size (s : ByteArray) : s.toList.length = s.size := by
  rw [ByteArray.toList_eq, Array.length_toList]; rfl

/-! values: null, number, text; less: which is ahead -/
def less (an : Bool) (ai : Int) (as : ByteArray) (bn : Bool) (bi : Int) (bs : ByteArray) : Bool :=
  if an then !bn else if bn then false else if ai = bi then Op.bytesLess as.toList bs.toList else decide (ai < bi)
def cmpS (a b : ByteArray) : Int := if Op.bytesLess a.toList b.toList = true then -1 else if Op.bytesLess b.toList a.toList = true then 1 else 0
def cmpV (an : Bool) (ai : Int) (as : ByteArray) (bn : Bool) (bi : Int) (bs : ByteArray) : Int :=
  if less an ai as bn bi bs = true then -1 else if less bn bi bs an ai as = true then 1 else 0
theorem less_irrefl (an : Bool) (ai : Int) (as : ByteArray) : less an ai as an ai as = false := by
  unfold less; cases an <;> simp [bl_irrefl]
theorem less_trans {an : Bool} {ai : Int} {as : ByteArray} {bn : Bool} {bi : Int} {bs : ByteArray} {cn : Bool} {ci : Int} {cs : ByteArray}
    (h : less an ai as bn bi bs = true) (k : less bn bi bs cn ci cs = true) : less an ai as cn ci cs = true := by
  unfold less at *
  cases an <;> cases bn <;> cases cn <;> simp at h k ⊢
  by_cases e1 : ai = bi
  · by_cases e2 : bi = ci
    · subst e1; subst e2
      simp at h k ⊢
      exact bl_trans _ _ _ h k
    · subst e1
      simp [e2] at k ⊢
      exact k
  · by_cases e2 : bi = ci
    · subst e2
      simp [e1] at h ⊢
      exact h
    · simp [e1] at h
      simp [e2] at k
      have : ai ≠ ci := by omega
      simp [this]
      omega
/-- neither ahead: both null, or the same -/
theorem less_total {an : Bool} {ai : Int} {as : ByteArray} {bn : Bool} {bi : Int} {bs : ByteArray}
    (h : less an ai as bn bi bs = false) (k : less bn bi bs an ai as = false) : (an = true ∧ bn = true) ∨ (an = false ∧ bn = false ∧ ai = bi ∧ as = bs) := by
  unfold less at *
  cases an <;> cases bn <;> simp at h k ⊢
  by_cases e : ai = bi
  · subst e
    simp at h k ⊢
    exact toList_inj (bl_total _ _ h k)
  · have e' : bi ≠ ai := fun z => e z.symm
    simp [e] at h
    simp [e'] at k
    omega
theorem less_asymm {an : Bool} {ai : Int} {as : ByteArray} {bn : Bool} {bi : Int} {bs : ByteArray} (h : less an ai as bn bi bs = true) : less bn bi bs an ai as = false := by
  cases k : less bn bi bs an ai as with
  | false => rfl
  | true => have := less_trans h k; rw [less_irrefl] at this; cases this
/-- 'not ahead' is an order, too -/
theorem notless_trans {an : Bool} {ai : Int} {as : ByteArray} {bn : Bool} {bi : Int} {bs : ByteArray} {cn : Bool} {ci : Int} {cs : ByteArray}
    (h : less an ai as bn bi bs = false) (k : less bn bi bs cn ci cs = false) : less an ai as cn ci cs = false := by
  cases z : less an ai as cn ci cs with
  | false => rfl
  | true =>
    cases y : less bn bi bs an ai as with
    | true => have := less_trans y z; rw [k] at this; cases this
    | false =>
      rcases less_total h y with ⟨rfl, rfl⟩ | ⟨rfl, rfl, rfl, rfl⟩
      · exact absurd z (by unfold less at k ⊢; simp at k ⊢; exact k)
      · rw [k] at z; cases z
theorem cmpV_lt {an : Bool} {ai : Int} {as : ByteArray} {bn : Bool} {bi : Int} {bs : ByteArray} : cmpV an ai as bn bi bs < 0 ↔ less an ai as bn bi bs = true := by
  unfold cmpV; split
  · simp_all
  · split <;> simp_all
theorem cmpV_gt {an : Bool} {ai : Int} {as : ByteArray} {bn : Bool} {bi : Int} {bs : ByteArray} : cmpV an ai as bn bi bs > 0 ↔ less bn bi bs an ai as = true := by
  unfold cmpV; split
  · rename_i h; simp [less_asymm h]
  · split <;> simp_all
theorem cmpV_neg (an : Bool) (ai : Int) (as : ByteArray) (bn : Bool) (bi : Int) (bs : ByteArray) : cmpV bn bi bs an ai as = - cmpV an ai as bn bi bs := by
  unfold cmpV
  cases h : less an ai as bn bi bs <;> cases k : less bn bi bs an ai as <;> simp
  have := less_asymm h; rw [k] at this; cases this
theorem cmpV_range (an : Bool) (ai : Int) (as : ByteArray) (bn : Bool) (bi : Int) (bs : ByteArray) : -1 ≤ cmpV an ai as bn bi bs ∧ cmpV an ai as bn bi bs ≤ 1 := by
  unfold cmpV; split
  · omega
  · split <;> omega
theorem cmpV_zero {an : Bool} {ai : Int} {as : ByteArray} {bn : Bool} {bi : Int} {bs : ByteArray} : cmpV an ai as bn bi bs = 0 ↔ (an = true ∧ bn = true) ∨ (an = false ∧ bn = false ∧ ai = bi ∧ as = bs) := by
  constructor
  · intro h
    apply less_total
    · cases k : less an ai as bn bi bs with
      | false => rfl
      | true => have := cmpV_lt.2 k; omega
    · cases k : less bn bi bs an ai as with
      | false => rfl
      | true => have := cmpV_gt.2 k; omega
  · rintro (⟨rfl, rfl⟩ | ⟨rfl, rfl, rfl, rfl⟩)
    · simp [cmpV, less]
    · simp [cmpV, less_irrefl]
end Go.Proofs.Ythlelhndmnkmjaa.Thy
