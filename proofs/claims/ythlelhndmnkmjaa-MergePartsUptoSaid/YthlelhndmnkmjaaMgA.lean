/- The order of deeds, what puts leave; quiet regions, frames (turned from the skip list's texts). -/
import Derived.Test.YthlelhndmnkmjaaRdk
import Derived.Test.YthlelhndmnkmjaaBrid
import Derived.Test.YthlelhndmnkmjaaPrf41
import Derived.Test.YthlelhndmnkmjaaPrf50
import Derived.Shelf.AbstractIn
import Derived.BigRegion
import Derived.RegionTactic
import Derived.ChangeAlike
import Derived.BigQuiet
import Derived.Deep.RegionWith
import Derived.Deep.RegionHeld3
namespace Go.Proofs.Ythlelhndmnkmjaa.Pr
open Go.RowKit Go.Proofs.Ythlelhndmnkmjaa.Brid Go.Proofs.YthlelhndmnkmjaaW.PrintWords Go.Proofs.YthlelhndmnkmjaaW.PrintLast Go.Proofs.YthlelhndmnkmjaaW.PrintMore
set_option linter.unusedVariables false
set_option linter.unusedSimpArgs false
set_option maxHeartbeats 4000000
set_option maxRecDepth 100000
namespace Sk
theorem heap_set_ne (w : World) (b j b' : Nat) (x : Go.Value) (hne : b' ≠ b) : (w.setCell ⟨b, j, none⟩ x).heap[b']? = w.heap[b']? := by
  simp only [World.setCell, Array.getElem?_modify]
  rw [if_neg (fun e => hne e.symm)]
end Sk
def lessT (a b : S37) : Bool := Thy.less a.f0 a.f1 a.f2 b.f0 b.f1 b.f2
/-- a deed's key -/
def keyT (d : S41) : S37 := rd_T37 d.f1 0
abbrev cellsT (x : S37) : Array Value := #[.bool x.f0, .int .i64 x.f1, .string x.f2]
theorem cmp_T (a b : S37) (w : World) : Calls Try.prog 41 #[.agg (cellsT a), .agg (cellsT b)] w fun e w' => e = .returned (.int .i64 (Thy.cmpV a.f0 a.f1 a.f2 b.f0 b.f1 b.f2)) ∧ Below w.heap.size w w' := by
  have := kinds_Compare_c.calls a.f0 a.f1 a.f2 b.f0 b.f1 b.f2 _ w rfl
  exact this
/-- A world behind w, whatever it is, in which all that lies in w lies as it was. -/
structure SomeW (w : World) where
  W : World
  h : Below w.heap.size w W
instance someW_inhabited (w : World) : Inhabited (SomeW w) := ⟨⟨w, Below.refl _ w⟩⟩
theorem wp_region_quiet_some {P : Program} {id : Nat} {Q : Exit → Act → World → Prop} {a : Act} {w : World} {l : List Oper} (hm : P.follows .mixedOrders = true) (hB : Region.lexB .any l.toArray = true)
    (h : wpQuiet P l.toArray (fun w' => ∃ p : SomeW w, w' = p.W) (fun a' => ∀ w', (∃ p : SomeW w, w' = p.W) → Q .normal a' w') l a) : (Code.region id l.toArray true).wp P Q a w :=
  wp_region_quiet (C := fun w' => ∃ p : SomeW w, w' = p.W) hm hB ⟨⟨w.drew, (Below.refl _ w).drew⟩, rfl⟩ (by simpa using h)
theorem Calls.below_some {P : Program} {f : FuncId} {args : Array Value} {w : World} {p : SomeW w} {v : Value}
    (h : Calls P f args p.W fun e w' => e = .returned v ∧ Below p.W.heap.size p.W w') : Calls P f args p.W fun e w'' => e = .returned v ∧ ∃ q : SomeW w, w'' = q.W :=
  h.mono fun _ w' ⟨he, hb⟩ => ⟨he, ⟨w', p.h.trans ⟨hb.os, hb.tape, hb.output, hb.size, fun i hi => hb.block i (Nat.lt_of_lt_of_le hi p.h.size)⟩⟩, rfl⟩
theorem mixed_T : Try.prog.follows .mixedOrders = true := by kernel_rfl
theorem cell_some {w : World} {a : Addr} {v : Value} (h : w.cell? a = some v) (p : SomeW w) : p.W.cell? a = some v := (Below.cell p.h (World.block_lt_of_cell? _ _ h)).trans h
theorem rdY_at (l : List S37) (n : Nat) (h : n < l.length) : rd_T37 l (n : Int) = l[n] := by
  simp [rd_T37, List.getD_eq_getElem?_getD, List.getElem?_eq_getElem h]
theorem lessT_irrefl (a : S37) : lessT a a = false := Thy.less_irrefl _ _ _
theorem lessT_trans {a b c : S37} (h : lessT a b = true) (k : lessT b c = true) : lessT a c = true := Thy.less_trans h k
theorem notlessT_trans {a b c : S37} (h : lessT a b = false) (k : lessT b c = false) : lessT a c = false := Thy.notless_trans h k
theorem lessT_asymm {a b : S37} (h : lessT a b = true) : lessT b a = false := Thy.less_asymm h
section
variable {δ : Type} (key : δ → S37) (k : S37)
def preOf (ns : List δ) : List δ := ns.takeWhile (fun n => lessT (key n) k)
def postOf (ns : List δ) : List δ := ns.dropWhile (fun n => lessT (key n) k)
theorem pre_post (ns : List δ) : preOf key k ns ++ postOf key k ns = ns := List.takeWhile_append_dropWhile
theorem preOf_less (ns : List δ) : ∀ n ∈ preOf key k ns, lessT (key n) k = true := by
  intro n hn
  have : ∀ l : List δ, ∀ n ∈ l.takeWhile (fun n => lessT (key n) k), lessT (key n) k = true := by
    intro l
    induction l with
    | nil => intro n hn; cases hn
    | cons a l ih =>
      intro n hn
      rw [List.takeWhile_cons] at hn
      split at hn
      · rcases List.mem_cons.1 hn with rfl | hn
        · assumption
        · exact ih n hn
      · cases hn
  exact this ns n hn
theorem postOf_not (ns : List δ) (hs : ns.Pairwise (fun a b => lessT (key a) (key b) = true)) : ∀ n ∈ postOf key k ns, lessT (key n) k = false := by
  induction ns with
  | nil => intro n hn; cases hn
  | cons a l ih =>
    intro n hn
    rw [postOf, List.dropWhile_cons] at hn
    split at hn
    · exact ih (List.pairwise_cons.1 hs).2 n hn
    · rename_i ha
      have ha : lessT (key a) k = false := by simpa using ha
      rcases List.mem_cons.1 hn with rfl | hn
      · exact ha
      · cases h : lessT (key n) k with
        | false => rfl
        | true => rw [lessT_trans ((List.pairwise_cons.1 hs).1 n hn) h] at ha; cases ha
end
/-- a deed put into a list in order -/
def putV (ds : List S41) (d : S41) : List S41 :=
  preOf keyT (keyT d) ds ++ d :: (match postOf keyT (keyT d) ds with | [] => [] | e :: r => if lessT (keyT d) (keyT e) = true then e :: r else r)
theorem putV_sorted (ds : List S41) (d : S41) (hs : ds.Pairwise (fun a b => lessT (keyT a) (keyT b) = true)) : (putV ds d).Pairwise (fun a b => lessT (keyT a) (keyT b) = true) := by
  have h0 := pre_post keyT (keyT d) ds
  have h1 := preOf_less keyT (keyT d) ds
  have h2 := postOf_not keyT (keyT d) ds hs
  unfold putV
  generalize preOf keyT (keyT d) ds = u at *
  generalize postOf keyT (keyT d) ds = v at *
  subst h0
  obtain ⟨hu, hv, huv⟩ := List.pairwise_append.1 hs
  have tail : ∀ r : List S41, r.Pairwise (fun a b => lessT (keyT a) (keyT b) = true) → (∀ b ∈ r, lessT (keyT d) (keyT b) = true) → (u ++ d :: r).Pairwise (fun a b => lessT (keyT a) (keyT b) = true) := by
    intro r hr hd
    refine List.pairwise_append.2 ⟨hu, List.pairwise_cons.2 ⟨hd, hr⟩, fun a ha b hb => ?_⟩
    rcases List.mem_cons.1 hb with rfl | hb
    · exact h1 a ha
    · exact lessT_trans (h1 a ha) (hd b hb)
  cases v with
  | nil => exact tail [] List.Pairwise.nil (fun b hb => by cases hb)
  | cons e r =>
    obtain ⟨he, hr⟩ := List.pairwise_cons.1 hv
    by_cases hde : lessT (keyT d) (keyT e) = true
    · simp only [hde, if_true]
      exact tail _ hv (fun b hb => by
        rcases List.mem_cons.1 hb with rfl | hb
        · exact hde
        · exact lessT_trans hde (he b hb))
    · simp only [hde]
      refine tail r hr (fun b hb => ?_)
      cases hx : lessT (keyT d) (keyT b) with
      | true => rfl
      | false =>
        -- d is e's like
        have hed : lessT (keyT e) (keyT d) = false := h2 e (by simp)
        have := notlessT_trans hed hx
        rw [he b hb] at this; cases this
/-- how the world may turn: what lay in w and is not in O lies as it lay -/
structure Fr (O : Nat → Prop) (w w' : World) : Prop where
  os : w'.os = w.os
  tape : w'.tape = w.tape
  output : w'.output = w.output
  size : w.heap.size ≤ w'.heap.size
  block : ∀ k, k < w.heap.size → ¬ O k → w'.heap[k]? = w.heap[k]?
theorem Fr.of_below {O : Nat → Prop} {w w' : World} (h : Below w.heap.size w w') : Fr O w w' := ⟨h.os, h.tape, h.output, h.size, fun k hk _ => h.block k hk⟩
theorem Fr.trans {O : Nat → Prop} {a b c : World} (h : Fr O a b) (k : Fr O b c) : Fr O a c := ⟨k.os.trans h.os, k.tape.trans h.tape, k.output.trans h.output, Nat.le_trans h.size k.size, fun i hi hn => (k.block i (Nat.lt_of_lt_of_le hi h.size) hn).trans (h.block i hi hn)⟩
theorem Fr.mono {O O' : Nat → Prop} {a b : World} (h : Fr O a b) (hO : ∀ k, k < a.heap.size → O k → O' k) : Fr O' a b := ⟨h.os, h.tape, h.output, h.size, fun i hi hn => h.block i hi (fun hh => hn (hO i hi hh))⟩
theorem Fr.set {O : Nat → Prop} {a b : World} (h : Fr O a b) {q : Nat} (hq : O q ∨ a.heap.size ≤ q) (j : Nat) (v : Value) : Fr O a (b.setCell ⟨q, j, none⟩ v) :=
  ⟨h.os, h.tape, h.output, by simpa [World.setCell] using h.size, fun i hi hn => by
    have hne : i ≠ q := by
      rintro rfl
      rcases hq with hq | hq
      · exact hn hq
      · omega
    exact (Sk.heap_set_ne b q j i v hne).trans (h.block i hi hn)⟩
/-- behind a part of the code: the frame A, a world that is G -/
def CutP (A : Act) (G : World → Prop) : Exit → Act → World → Prop
  | .normal, a', w' => a' = A ∧ G w'
  | _, _, _ => False
theorem wp_cut_T {P : Program} {c : Code} {Q' : Exit → Act → World → Prop} {a : Act} {w : World} (G : World → Prop) (h : ∃ A, c.wp P (CutP A G) a w ∧ ∀ w', G w' → Q' .normal A w') : c.wp P Q' a w := by
  obtain ⟨A, h1, h2⟩ := h
  refine Code.wp_mono (fun e a' w' hh => ?_) h1
  cases e with
  | normal => obtain ⟨rfl, hG⟩ := hh; exact h2 w' hG
  | ret => exact hh.elim
  | exit id => exact hh.elim
  | goto t => exact hh.elim
  | panic c => exact hh.elim
  | outgrown => exact hh.elim
theorem below_fr {w0 w w' : World} {O : Nat → Prop} (h : Below w0.heap.size w0 w) (f : Fr O w w') (hO : ∀ k, O k → w0.heap.size ≤ k) : Below w0.heap.size w0 w' :=
  ⟨f.os.trans h.os, f.tape.trans h.tape, f.output.trans h.output, Nat.le_trans h.size f.size, fun k hk => (f.block k (Nat.lt_of_lt_of_le hk h.size) (fun hh => by have := hO k hh; omega)).trans (h.block k hk)⟩
/-- behind a part of the code: one of the frames F x, a world that is G x -/
def CutX {X : Type} (F : X → Act) (G : X → World → Prop) : Exit → Act → World → Prop
  | .normal, a', w' => ∃ x, a' = F x ∧ G x w'
  | _, _, _ => False
theorem wp_cutX_T {X : Type} {P : Program} {c : Code} {Q' : Exit → Act → World → Prop} {a : Act} {w : World} (F : X → Act) (G : X → World → Prop) (h1 : c.wp P (CutX F G) a w) (h2 : ∀ x w', G x w' → Q' .normal (F x) w') : c.wp P Q' a w := by
  refine Code.wp_mono (fun e a' w' hh => ?_) h1
  cases e with
  | normal => obtain ⟨x, rfl, hG⟩ := hh; exact h2 x w' hG
  | ret => exact hh.elim
  | exit id => exact hh.elim
  | goto t => exact hh.elim
  | panic c => exact hh.elim
  | outgrown => exact hh.elim
def eqK (a b : S37) : Bool := !lessT a b && !lessT b a
theorem eqK_iff {a b : S37} : eqK a b = true ↔ lessT a b = false ∧ lessT b a = false := by simp [eqK]
theorem eqK_refl (a : S37) : eqK a a = true := eqK_iff.2 ⟨lessT_irrefl a, lessT_irrefl a⟩
theorem eqK_symm {a b : S37} (h : eqK a b = true) : eqK b a = true := eqK_iff.2 ⟨(eqK_iff.1 h).2, (eqK_iff.1 h).1⟩
theorem eqK_trans {a b c : S37} (h : eqK a b = true) (k : eqK b c = true) : eqK a c = true :=
  eqK_iff.2 ⟨notlessT_trans (eqK_iff.1 h).1 (eqK_iff.1 k).1, notlessT_trans (eqK_iff.1 k).2 (eqK_iff.1 h).2⟩
theorem less_eqK {a b c : S37} (h : lessT a b = true) (k : eqK b c = true) : lessT a c = true := by
  cases hc : lessT a c with
  | true => rfl
  | false => rw [notlessT_trans hc (eqK_iff.1 k).2] at h; cases h
def SortedD (ds : List S41) : Prop := ds.Pairwise (fun a b => lessT (keyT a) (keyT b) = true)
def findV (ds : List S41) (k : S37) : Option S41 := ds.find? (fun e => eqK (keyT e) k)
/-- the deed of a key -/
def getV (ds : List S41) (k : S37) : Option S41 := match postOf keyT k ds with | [] => none | e :: _ => if lessT k (keyT e) = true then none else some e
theorem getV_find (ds : List S41) (k : S37) (hs : SortedD ds) : getV ds k = findV ds k := by
  induction ds with
  | nil => rfl
  | cons a l ih =>
    obtain ⟨ha, hl⟩ := List.pairwise_cons.1 hs
    unfold getV postOf findV
    rw [List.dropWhile_cons, List.find?_cons]
    cases h1 : lessT (keyT a) k with
    | true =>
      have : eqK (keyT a) k = false := by simp [eqK, h1]
      rw [this]
      simp only [if_true]
      have := ih hl
      unfold getV postOf findV at this
      exact this
    | false =>
      cases h2 : lessT k (keyT a) with
      | false =>
        have : eqK (keyT a) k = true := eqK_iff.2 ⟨h1, h2⟩
        rw [this]
        simp [h2]
      | true =>
        have : eqK (keyT a) k = false := by simp [eqK, h2]
        rw [this]
        simp only [Bool.false_eq_true, if_false, h2, if_true]
        symm
        rw [List.find?_eq_none]
        intro b hb he
        have := lessT_trans h2 (ha b hb)
        rw [(eqK_iff.1 he).2] at this; cases this
theorem findV_putV (ds : List S41) (d : S41) (k : S37) (hs : SortedD ds) : findV (putV ds d) k = if eqK (keyT d) k = true then some d else findV ds k := by
  have h0 := pre_post keyT (keyT d) ds
  have h1 := preOf_less keyT (keyT d) ds
  have h2 := postOf_not keyT (keyT d) ds hs
  unfold putV
  generalize preOf keyT (keyT d) ds = u at *
  generalize postOf keyT (keyT d) ds = v at *
  subst h0
  unfold findV
  have hu : eqK (keyT d) k = true → u.find? (fun e => eqK (keyT e) k) = none := fun hd => by
    rw [List.find?_eq_none]
    intro e he hk
    have := less_eqK (h1 e he) hd
    rw [(eqK_iff.1 hk).1] at this; cases this
  rw [List.find?_append, List.find?_append, List.find?_cons]
  cases hd : eqK (keyT d) k with
  | true => rw [hu hd]; simp
  | false =>
    simp only [Bool.false_eq_true, if_false]
    congr 1
    cases v with
    | nil => rfl
    | cons e r =>
      by_cases hde : lessT (keyT d) (keyT e) = true
      · simp only [hde, if_true]
      · simp only [hde]
        rw [List.find?_cons]
        have hed : eqK (keyT e) (keyT d) = true := eqK_iff.2 ⟨h2 e (by simp), by simpa using hde⟩
        have : eqK (keyT e) k = false := by
          cases hk : eqK (keyT e) k with
          | false => rfl
          | true => rw [eqK_trans (eqK_symm hed) hk] at hd; cases hd
        rw [this]
        rfl
def putsV (l : List S41) : List S41 := l.foldl (fun ds d => if d.f1.length = 0 then ds else putV ds d) []
theorem putsV_snoc (l : List S41) (d : S41) : putsV (l ++ [d]) = if d.f1.length = 0 then putsV l else putV (putsV l) d := by simp [putsV, List.foldl_append]
theorem putsV_sorted_aux (l : List S41) (ds : List S41) (hs : SortedD ds) : SortedD (l.foldl (fun ds d => if d.f1.length = 0 then ds else putV ds d) ds) := by
  induction l generalizing ds with
  | nil => exact hs
  | cons a l ih =>
    rw [List.foldl_cons]
    by_cases h : a.f1.length = 0
    · rw [if_pos h]; exact ih ds hs
    · rw [if_neg h]; exact ih _ (putV_sorted ds a hs)
theorem putsV_sorted (l : List S41) : SortedD (putsV l) := putsV_sorted_aux l [] List.Pairwise.nil
/-- the newest of a key -/
def newV (k : S37) (acc : Option S41) (l : List S41) : Option S41 := l.foldl (fun acc d => if d.f1.length = 0 then acc else if eqK (keyT d) k = true then some d else acc) acc
theorem findV_puts_aux (k : S37) (l : List S41) (ds : List S41) (hs : SortedD ds) : findV (l.foldl (fun ds d => if d.f1.length = 0 then ds else putV ds d) ds) k = newV k (findV ds k) l := by
  induction l generalizing ds with
  | nil => rfl
  | cons a l ih =>
    rw [List.foldl_cons, newV, List.foldl_cons]
    by_cases h : a.f1.length = 0
    · rw [if_pos h, if_pos h]; exact ih ds hs
    · rw [if_neg h, if_neg h, ih _ (putV_sorted ds a hs), findV_putV ds a k hs]; rfl
theorem getV_puts (k : S37) (l : List S41) : getV (putsV l) k = newV k none l := by
  rw [getV_find _ _ (putsV_sorted l)]
  exact findV_puts_aux k l [] List.Pairwise.nil
theorem rdD_at (l : List S41) (n : Nat) (h : n < l.length) : rd_T41 l (n : Int) = l[n] := by
  simp [rd_T41, List.getD_eq_getElem?_getD, List.getElem?_eq_getElem h]
theorem newV_app (k : S37) (acc : Option S41) (a b : List S41) : newV k acc (a ++ b) = newV k (newV k acc a) b := by simp [newV, List.foldl_append]
theorem putV_len (ds : List S41) (d : S41) : (putV ds d).length ≤ ds.length + 1 := by
  have h0 := congrArg List.length (pre_post keyT (keyT d) ds)
  unfold putV
  rw [List.length_append] at h0
  rw [List.length_append, List.length_cons]
  cases hp : postOf keyT (keyT d) ds with
  | nil => rw [hp] at h0; simp at h0 ⊢; omega
  | cons e r =>
    rw [hp] at h0
    simp only [List.length_cons] at h0
    simp only
    split
    · simp only [List.length_cons]; omega
    · omega
theorem putsV_len_aux (l ds : List S41) : (l.foldl (fun ds d => if d.f1.length = 0 then ds else putV ds d) ds).length ≤ ds.length + l.length := by
  induction l generalizing ds with
  | nil => simp
  | cons a l ih =>
    rw [List.foldl_cons, List.length_cons]
    by_cases h : a.f1.length = 0
    · rw [if_pos h]; have := ih ds; omega
    · rw [if_neg h]; have := ih (putV ds a); have := putV_len ds a; omega
theorem putsV_len (l : List S41) : (putsV l).length ≤ l.length := by
  have := putsV_len_aux l []
  unfold putsV
  simpa using this
theorem putV_mem {ds : List S41} {d e : S41} (h : e ∈ putV ds d) : e = d ∨ e ∈ ds := by
  have h0 := pre_post keyT (keyT d) ds
  rw [← h0]
  unfold putV at h
  generalize preOf keyT (keyT d) ds = u at *
  generalize postOf keyT (keyT d) ds = v at *
  rcases List.mem_append.1 h with k | k
  · exact .inr (List.mem_append_left _ k)
  · rcases List.mem_cons.1 k with k | k
    · exact .inl k
    · cases v with
      | nil => cases k
      | cons x r =>
        simp only at k
        split at k
        · exact .inr (List.mem_append_right _ k)
        · exact .inr (List.mem_append_right _ (List.mem_cons_of_mem _ k))
theorem putsV_mem {l : List S41} {e : S41} (h : e ∈ putsV l) : e ∈ l ∧ e.f1.length ≠ 0 := by
  have : ∀ (l ds : List S41), e ∈ l.foldl (fun ds d => if d.f1.length = 0 then ds else putV ds d) ds → (e ∈ l ∧ e.f1.length ≠ 0) ∨ e ∈ ds := by
    intro l
    induction l with
    | nil => intro ds h; exact .inr h
    | cons a l ih =>
      intro ds h
      rw [List.foldl_cons] at h
      by_cases ha : a.f1.length = 0
      · rw [if_pos ha] at h
        rcases ih ds h with k | k
        · exact .inl ⟨List.mem_cons_of_mem _ k.1, k.2⟩
        · exact .inr k
      · rw [if_neg ha] at h
        rcases ih _ h with k | k
        · exact .inl ⟨List.mem_cons_of_mem _ k.1, k.2⟩
        · rcases putV_mem k with rfl | k
          · exact .inl ⟨List.mem_cons_self, ha⟩
          · exact .inr k
  rcases this l [] h with k | k
  · exact k
  · cases k
theorem heap37 : Kd.Heap k37 := Kd.heap_iso _ (Kd.heap_pair Kd.heap_scalar (Kd.heap_pair (Kd.heap_int _) Kd.heap_scalar))
theorem heap41 : Kd.Heap k41 := Kd.heap_iso _ (Kd.heap_pair Kd.heap_scalar (Kd.heap_slice _ heap37))
theorem ahead_T (a b : S37) (w : World) (h : a.f2.size ≤ 9223372036854775807) : Calls Try.prog 50 #[.agg (cellsT a), .agg (cellsT b)] w fun e w' => e = .returned (.bool (lessT a b)) ∧ Below w.heap.size w w' := by
  refine tithebarnref02_Ahead_c.calls a.f0 a.f1 a.f2 b.f0 b.f1 b.f2 _ w ?_
  unfold tithebarnref02_Ahead_c.f; rw [if_pos h]; rfl
theorem keyT_mem {d : S41} (h : 0 < d.f1.length) : keyT d ∈ d.f1 := by
  have : keyT d = d.f1[0] := rdY_at d.f1 0 h
  rw [this]; exact List.getElem_mem h
theorem findV_mem {A : List S41} (hs : SortedD A) {d : S41} (hd : d ∈ A) : findV A (keyT d) = some d := by
  induction A with
  | nil => cases hd
  | cons a r ih =>
    rw [findV, List.find?_cons]
    rcases List.mem_cons.1 hd with h | h
    · subst h; rw [eqK_refl]
    · have hl := (List.pairwise_cons.1 hs).1 d h
      have : eqK (keyT a) (keyT d) = false := by simp [eqK, hl]
      rw [this]
      exact ih (List.pairwise_cons.1 hs).2 h
theorem sorted_ext {A B : List S41} (ha : SortedD A) (hb : SortedD B) (h : ∀ d, d ∈ A ↔ d ∈ B) : A = B := by
  induction A generalizing B with
  | nil =>
    cases B with
    | nil => rfl
    | cons b r => have := (h b).2 (by simp); cases this
  | cons a r ih =>
    cases B with
    | nil => have := (h a).1 (by simp); cases this
    | cons b s =>
      have pa := List.pairwise_cons.1 ha
      have pb := List.pairwise_cons.1 hb
      have e : a = b := by
        rcases List.mem_cons.1 ((h a).1 (by simp)) with h1 | h1
        · exact h1
        · rcases List.mem_cons.1 ((h b).2 (by simp)) with h2 | h2
          · exact h2.symm
          · have x := pb.1 a h1
            have y := pa.1 b h2
            have := lessT_trans x y
            rw [lessT_irrefl] at this
            cases this
      subst e
      congr 1
      refine ih pa.2 pb.2 fun d => ⟨fun hd => ?_, fun hd => ?_⟩
      · rcases List.mem_cons.1 ((h d).1 (List.mem_cons_of_mem _ hd)) with h1 | h1
        · subst h1; have := pa.1 d hd; rw [lessT_irrefl] at this; cases this
        · exact h1
      · rcases List.mem_cons.1 ((h d).2 (List.mem_cons_of_mem _ hd)) with h1 | h1
        · subst h1; have := pb.1 d hd; rw [lessT_irrefl] at this; cases this
        · exact h1
theorem cmp_eqK (a b : S37) : Thy.cmpV a.f0 a.f1 a.f2 b.f0 b.f1 b.f2 = 0 ↔ eqK a b = true := by
  rw [eqK_iff]
  unfold lessT Thy.cmpV
  cases h1 : Thy.less a.f0 a.f1 a.f2 b.f0 b.f1 b.f2 <;> cases h2 : Thy.less b.f0 b.f1 b.f2 a.f0 a.f1 a.f2 <;> simp
end Go.Proofs.Ythlelhndmnkmjaa.Pr
