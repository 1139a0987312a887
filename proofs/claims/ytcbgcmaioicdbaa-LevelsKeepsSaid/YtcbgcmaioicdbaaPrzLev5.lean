/- Levels: the parts that a plan names. -/
import Derived.Test.YtcbgcmaioicdbaaRdk
import Derived.Test.YtcbgcmaioicdbaaPrf10
import Derived.Test.YtcbgcmaioicdbaaPrf24
import Derived.Test.YtcbgcmaioicdbaaPrf25
import Derived.Test.YtcbgcmaioicdbaaPrf35xc
import Derived.Test.YtcbgcmaioicdbaaPrzLev
import Derived.Test.YtcbgcmaioicdbaaPrzLev2
import Derived.Test.YtcbgcmaioicdbaaPrzLev4
import Derived.Test.YtcbgcmaioicdbaaThy
namespace Go.Proofs.Ytcbgcmaioicdbaa.Pr
open Go.RowKit Go.Proofs.Ytcbgcmaioicdbaa.Brid Go.Proofs.YtcbgcmaioicdbaaW.PrintWords Go.Proofs.YtcbgcmaioicdbaaW.PrintLast Go.Proofs.YtcbgcmaioicdbaaW.PrintMore
set_option linter.unusedVariables false
set_option linter.unusedSimpArgs false
theorem rdI_at (l : List Int) (n : Nat) (h : n < l.length) : rd l (n : Int) = l[n] := by
 simp [rd, List.getD_eq_getElem?_getD, List.getElem?_eq_getElem h]
theorem spanV_in : ∀ (t : List Pt) (x : Pt), (lessV x.f2 (spanV x t).f2 = false ∧ lessV (spanV x t).f3 x.f3 = false) ∧ ∀ c ∈ t, lessV c.f2 (spanV x t).f2 = false ∧ lessV (spanV x t).f3 c.f3 = false
 | [], x => ⟨⟨Thy.less_irrefl _ _ _, Thy.less_irrefl _ _ _⟩, fun c hc => by cases hc⟩
 | y :: t, x => by
  obtain ⟨⟨h1, h2⟩, h3⟩ := spanV_in t (stepV x y)
  have e : spanV x (y :: t) = spanV (stepV x y) t := rfl
  rw [e]
  have a1 : lessV x.f2 (stepV x y).f2 = false ∧ lessV y.f2 (stepV x y).f2 = false := by
   simp only [stepV]
   by_cases c : lessV y.f2 x.f2 = true
   ·rw [if_pos c]; exact ⟨Thy.less_asymm c, Thy.less_irrefl _ _ _⟩
   ·rw [if_neg c]; exact ⟨Thy.less_irrefl _ _ _, by simpa using c⟩
  have a2 : lessV (stepV x y).f3 x.f3 = false ∧ lessV (stepV x y).f3 y.f3 = false := by
   simp only [stepV]
   by_cases c : lessV x.f3 y.f3 = true
   ·rw [if_pos c]; exact ⟨Thy.less_asymm c, Thy.less_irrefl _ _ _⟩
   ·rw [if_neg c]; exact ⟨Thy.less_irrefl _ _ _, by simpa using c⟩
  refine ⟨⟨Thy.notless_trans a1.1 h1, Thy.notless_trans h2 a2.1⟩, fun c hc => ?_⟩
  rcases List.mem_cons.1 hc with rfl | hc
  ·exact ⟨Thy.notless_trans a1.2 h1, Thy.notless_trans h2 a2.2⟩
  ·exact h3 c hc
theorem span_ov (x : Pt) (t : List Pt) (c p : Pt) (hc : c ∈ x :: t) (h : ovV p c = true) : ovV p (spanV x t) = true := by
 have hs : lessV c.f2 (spanV x t).f2 = false ∧ lessV (spanV x t).f3 c.f3 = false := by
  rcases List.mem_cons.1 hc with rfl | hc
  ·exact (spanV_in t c).1
  ·exact (spanV_in t x).2 c hc
 unfold ovV at h ⊢
 rw [Bool.and_eq_true] at h
 have h1 : Thy.less p.f3.f0 p.f3.f1 p.f3.f2 c.f2.f0 c.f2.f1 c.f2.f2 = false := by simpa using h.1
 have h2 : Thy.less c.f3.f0 c.f3.f1 c.f3.f2 p.f2.f0 p.f2.f1 p.f2.f2 = false := by simpa using h.2
 rw [Thy.notless_trans h1 hs.1, Thy.notless_trans hs.2 h2]; rfl
structure Plan (q : List Pt) (lv : Int) (c nx : List Pt) : Prop where
 inq : ∀ p ∈ c ++ nx, p ∈ q
 apart : (c ++ nx).Pairwise UnR
 top : ∀ p ∈ c, p.f1 = lv
 next : ∀ p ∈ nx, p.f1 = lv + 1
 over : ∀ p ∈ q, p.f1 = lv + 1 → ∀ y ∈ c, ovV p y = true → p ∈ nx
 zero : lv = 0 → ∀ p ∈ q, p.f1 = 0 → p ∈ c
theorem Plan.of (q : List Pt) (hu : unV q = true) (lv : Nat) (x : Pt) (t : List Pt) (hch : chosenV q lv = some (x :: t)) : Plan q lv (x :: t) (nextV q ((lv : Int) + 1) (spanV x t)) := by
 have hpq := unV_pair q hu
 have hon : ∀ a, (onV q a).Pairwise UnR := fun a => hpq.filter _
 have hcp : (∀ p ∈ x :: t, p ∈ onV q lv) ∧ (x :: t).Pairwise UnR ∧ ((lv : Int) = 0 → ∀ p ∈ onV q lv, p ∈ x :: t) := by
  have hch' := hch
  unfold chosenV at hch'
  by_cases ha : (lv : Int) > 0
  ·rw [if_pos ha] at hch'
   cases hq : onV q lv with
   | nil => rw [hq] at hch'; cases hch'
   | cons y u =>
    rw [hq] at hch'
    injection hch' with hch'
    injection hch' with e1 e2
    subst e1 e2
    exact ⟨fun p hp => by rw [List.mem_singleton.1 hp]; exact minOf_mem _ _ _, List.pairwise_singleton _ _, fun h => by omega⟩
  ·rw [if_neg ha] at hch'
   injection hch' with hch'
   have hp := Stab.ssort_perm (lt := ltOf cfDn) (onV q lv)
   rw [hch'] at hp
   exact ⟨fun p h => hp.mem_iff.1 h, hp.symm.pairwise (hon lv) (fun {a b} h => UnR.symm a b h), fun _ p h => hp.mem_iff.2 h⟩
 have hnp : (nextV q ((lv : Int) + 1) (spanV x t)).Perm ((onV q ((lv : Int) + 1)).filter (fun p => ovV p (spanV x t))) := Stab.ssort_perm _
 have hnm : ∀ p, p ∈ nextV q ((lv : Int) + 1) (spanV x t) ↔ (p ∈ onV q ((lv : Int) + 1) ∧ ovV p (spanV x t) = true) := fun p => by rw [hnp.mem_iff, List.mem_filter]
 have hc1 : ∀ p ∈ x :: t, p.f1 = (lv : Int) := fun p hp => (onV_mem (hcp.1 p hp)).2
 have hn1 : ∀ p ∈ nextV q ((lv : Int) + 1) (spanV x t), p.f1 = (lv : Int) + 1 := fun p hp => (onV_mem ((hnm p).1 hp).1).2
 have hcq : ∀ p ∈ x :: t, p ∈ q := fun p hp => (onV_mem (hcp.1 p hp)).1
 have hnq : ∀ p ∈ nextV q ((lv : Int) + 1) (spanV x t), p ∈ q := fun p hp => (onV_mem ((hnm p).1 hp).1).1
 refine ⟨fun p hp => ?_, ?_, hc1, hn1, fun p hp h1 y hy hov => (hnm p).2 ⟨List.mem_filter.2 ⟨hp, by simpa using h1⟩, span_ov x t y p hy hov⟩, fun h0 p hp h1 => hcp.2.2 h0 p (List.mem_filter.2 ⟨hp, by rw [h0]; simpa using h1⟩)⟩
 ·rcases List.mem_append.1 hp with h | h
  ·exact hcq p h
  ·exact hnq p h
 ·refine List.pairwise_append.2 ⟨hcp.2.1, hnp.symm.pairwise ((hon _).filter _) (fun {a b} h => UnR.symm a b h), fun a ha b hb he => ?_⟩
  have := unV_same q hu b a (hnq b hb) (hcq a ha) he
  have h1 := hc1 a ha
  have h2 := hn1 b hb
  rw [this] at h2; omega

end Go.Proofs.Ytcbgcmaioicdbaa.Pr
