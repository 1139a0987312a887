/- skip: frames of two ways; the same deed (numbers of seat b) -/
import Derived.Test.YtnfliommpdjlkaaSkL
import Derived.Test.YtnfliommpdjlkaaPrf18
import Derived.Deep.RegionLaw
namespace Go.Proofs.Ytnfliommpdjlkaa.Pr
open Go.RowKit Go.Proofs.Ytnfliommpdjlkaa.Brid Go.Proofs.YtnfliommpdjlkaaW.PrintWords Go.Proofs.YtnfliommpdjlkaaW.PrintLast Go.Proofs.YtnfliommpdjlkaaW.PrintMore
set_option linter.unusedVariables false
set_option linter.unusedSimpArgs false
set_option maxHeartbeats 4000000
set_option maxRecDepth 100000
/-- behind a part of the code: one of the frames F x, a world that is G x -/
def CutX {X : Type} (F : X → Act) (G : X → World → Prop) : Exit → Act → World → Prop
  | .normal, a', w' => ∃ x, a' = F x ∧ G x w'
  | _, _, _ => False
theorem wp_cutX_T {X : Type} {P : Program} {c : Code} {Q' : Exit → Act → World → Prop} {a : Act} {w : World} (F : X → Act) (G : X → World → Prop) (h1 : c.wp P (CutX F G) a w) (h2 : ∀ x w', G x w' → Q' .normal (F x) w') : c.wp P Q' a w := by
  refine Code.wp_mono (fun e a' w' hh => ?_) h1
  cases e with
  | normal => obtain ⟨x, rfl, hG⟩ := hh; exact h2 x w' hG
  | ret => exact hh.elim
  | exit id => exact hh.elim
  | goto t => exact hh.elim
  | panic c => exact hh.elim
  | outgrown => exact hh.elim
theorem sameV_self (l : List S27) : sameV l l = true := by
  have : ∀ l : List S27, (l.zip l).all (fun p => eqW p.1 p.2) = true := by
    intro l
    induction l with
    | nil => rfl
    | cons x r ih => rw [List.zip_cons_cons, List.all_cons, ih]; simp [eqW]
  rw [sameV, this]; simp
theorem same_T (g : Bool) (A : Option Addr) (c : Nat) (l : List S27) (g' : Bool) (A' : Option Addr) (c' : Nat) (l' : List S27) (w : World) (h : Kd.C k27 w A l.length l) (hc : l.length ≤ c) (h' : Kd.C k27 w A' l'.length l') (hc' : l'.length ≤ c') :
    Calls Try.prog 18 #[.agg #[.bool g, .slice A l.length c], .agg #[.bool g', .slice A' l'.length c']] w fun e w' => e = .returned (.bool ((g == g') && sameV l l')) ∧ Below w.heap.size w w' := by
  refine tithebarnref07_Same.calls g A c l g' A' c' l' _ w h hc h' hc' ?_
  unfold tithebarnref07_Same.f tithebarnref02_Same_c.f
  cases (g == g') <;> simp
/-- the block of a row that is not empty -/
theorem R_block {w : World} {base : Nat} {O : Nat → Prop} {A : Option Addr} {n c : Nat} {l : List S27} (h : Kd.R k27 27 w base O (.slice A n c) l) (hl : 0 < l.length) : ∃ g cur, A = some ⟨g, 0, none⟩ ∧ O g ∧ base ≤ g ∧ g < w.heap.size ∧ n = l.length ∧ n ≤ c ∧ w.heap[g]? = some (.cells cur 27 (0, 0)) ∧ cur.size = c * 3 := by
  obtain ⟨h0, inner, ho, _⟩ := h
  rcases ho.2 with ⟨_, hn⟩ | ⟨g, cap, cur, he, hb, hh, hnc, _, hsz, _⟩
  · omega
  · injection he with h1 h2 h3
    subst h1 h2 h3
    exact ⟨g, cur, rfl, h0 g rfl, hb, (Array.getElem?_eq_some_iff.1 hh).1, rfl, hnc, hh, hsz⟩
theorem C_app {δ : Type} (d : Kd δ) {w w1 : World} {A : Option Addr} {n : Nat} {l : List δ} (h : Kd.C d w A n l) (hb : Below w.heap.size w w1) : Kd.C d w1 A n l := Kd.C_below h hb
theorem getSelf (x : S25) : getV [x] (keyT x) = some x := by simp [getV, postOf, lessT_irrefl]
end Go.Proofs.Ytnfliommpdjlkaa.Pr
