/- Sk SkA SkB -/
import Derived.Test.YtnfliommpdjlkaaWWords
import Derived.Test.YtnfliommpdjlkaaRdk
import Derived.Test.YtnfliommpdjlkaaPrf45
import Derived.Test.YtnfliommpdjlkaaPrf39
import Derived.Test.YtnfliommpdjlkaaPrf43
import Derived.Shelf.AbstractIn
import Derived.BigRegion
import Derived.RegionTactic
import Derived.ChangeAlike
import Derived.BigQuiet
import Derived.Test.YtnfliommpdjlkaaPrf18
section
namespace Go.Proofs.Ytnfliommpdjlkaa.Sk
open Go
set_option linter.unusedVariables false
set_option linter.unusedSimpArgs false
/-- a node: its block, its height, its row's value, its deed -/
structure Nd (δ : Type) where
  b : Nat
  h : Nat
  v : Go.Value
  d : δ
variable {δ : Type}
/-- the block of the first node that is higher than L -/
def nxt (L : Nat) (ns : List (Nd δ)) : Option Nat := (ns.find? (fun n => decide (L < n.h))).map (·.b)
/-- the block of the last node that is higher than L; else p -/
def lst (p L : Nat) (ns : List (Nd δ)) : Nat := ns.foldl (fun a n => if L < n.h then n.b else a) p
def ptr (o : Option Nat) : Go.Value := .pointer (o.map fun b => ⟨b, 0, none⟩)
def ptrAt (h L : Nat) (rest : List (Nd δ)) : Go.Value := ptr (if L < h then nxt L rest else none)
theorem nxt_nil (L : Nat) : nxt L ([] : List (Nd δ)) = none := rfl
theorem nxt_cons_hit {L : Nat} {n : Nd δ} {r : List (Nd δ)} (h : L < n.h) : nxt L (n :: r) = some n.b := by simp [nxt, h]
theorem nxt_cons_miss {L : Nat} {n : Nd δ} {r : List (Nd δ)} (h : ¬ L < n.h) : nxt L (n :: r) = nxt L r := by simp [nxt, h]
theorem nxt_skip {L : Nat} : ∀ (u v : List (Nd δ)), (∀ n ∈ u, ¬ L < n.h) → nxt L (u ++ v) = nxt L v
  | [], v, _ => rfl
  | n :: u, v, h => by rw [List.cons_append, nxt_cons_miss (h n List.mem_cons_self)]; exact nxt_skip u v (fun m hm => h m (List.mem_cons_of_mem _ hm))
theorem nxt_hit_app {L : Nat} : ∀ (u v : List (Nd δ)), (∃ n ∈ u, L < n.h) → nxt L (u ++ v) = nxt L u
  | [], v, h => by obtain ⟨n, hn, _⟩ := h; cases hn
  | n :: u, v, h => by
    by_cases hn : L < n.h
    · rw [List.cons_append, nxt_cons_hit hn, nxt_cons_hit hn]
    · rw [List.cons_append, nxt_cons_miss hn, nxt_cons_miss hn]
      refine nxt_hit_app u v ?_
      obtain ⟨m, hm, hh⟩ := h
      rcases List.mem_cons.1 hm with rfl | hm
      · exact absurd hh hn
      · exact ⟨m, hm, hh⟩
/-- another height in the middle, on the same side of L -/
theorem nxt_congr {L : Nat} {n n' : Nd δ} (hb : n'.b = n.b) (hL : (L < n'.h ↔ L < n.h)) : ∀ (u v : List (Nd δ)), nxt L (u ++ n' :: v) = nxt L (u ++ n :: v)
  | [], v => by
    by_cases h : L < n.h
    · rw [List.nil_append, List.nil_append, nxt_cons_hit h, nxt_cons_hit (hL.2 h), hb]
    · rw [List.nil_append, List.nil_append, nxt_cons_miss h, nxt_cons_miss (fun k => h (hL.1 k))]
  | m :: u, v => by
    by_cases h : L < m.h
    · rw [List.cons_append, List.cons_append, nxt_cons_hit h, nxt_cons_hit h]
    · rw [List.cons_append, List.cons_append, nxt_cons_miss h, nxt_cons_miss h]; exact nxt_congr hb hL u v
theorem lst_nil (p L : Nat) : lst p L ([] : List (Nd δ)) = p := rfl
theorem lst_app (p L : Nat) (u v : List (Nd δ)) : lst p L (u ++ v) = lst (lst p L u) L v := by simp [lst, List.foldl_append]
theorem lst_snoc_hit {p L : Nat} {n : Nd δ} (u : List (Nd δ)) (h : L < n.h) : lst p L (u ++ [n]) = n.b := by simp [lst, List.foldl_append, h]
theorem lst_skip {L : Nat} : ∀ (p : Nat) (v : List (Nd δ)), (∀ n ∈ v, ¬ L < n.h) → lst p L v = p
  | p, [], _ => rfl
  | p, n :: v, h => by
    have : lst p L (n :: v) = lst (if L < n.h then n.b else p) L v := rfl
    rw [this, if_neg (h n List.mem_cons_self)]
    exact lst_skip p v (fun m hm => h m (List.mem_cons_of_mem _ hm))
theorem lst_app_skip {p L : Nat} (u v : List (Nd δ)) (h : ∀ n ∈ v, ¬ L < n.h) : lst p L (u ++ v) = lst p L u := by rw [lst_app, lst_skip _ v h]
/-- where the last one higher than L stands -/
theorem last_split (L : Nat) : ∀ ns : List (Nd δ), (∀ n ∈ ns, ¬ L < n.h) ∨ ∃ u n v, ns = u ++ n :: v ∧ L < n.h ∧ ∀ m ∈ v, ¬ L < m.h
  | [] => .inl (fun n hn => by cases hn)
  | n :: r => by
    rcases last_split L r with h | ⟨u, m, v, rfl, hm, hv⟩
    · by_cases hn : L < n.h
      · exact .inr ⟨[], n, r, rfl, hn, h⟩
      · exact .inl (fun m hm => by rcases List.mem_cons.1 hm with rfl | hm; exact hn; exact h m hm)
    · exact .inr ⟨n :: u, m, v, rfl, hm, hv⟩
theorem lst_split {p L : Nat} {u v : List (Nd δ)} {n : Nd δ} (h : L < n.h) (hv : ∀ m ∈ v, ¬ L < m.h) : lst p L (u ++ n :: v) = n.b := by
  have : u ++ n :: v = (u ++ [n]) ++ v := by simp
  rw [this, lst_app_skip _ v hv, lst_snoc_hit u h]
/-- the first one higher than L -/
theorem first_split (L : Nat) : ∀ ns : List (Nd δ), (∀ n ∈ ns, ¬ L < n.h) ∨ ∃ u n v, ns = u ++ n :: v ∧ L < n.h ∧ ∀ m ∈ u, ¬ L < m.h
  | [] => .inl (fun n hn => by cases hn)
  | n :: r => by
    by_cases hn : L < n.h
    · exact .inr ⟨[], n, r, rfl, hn, fun m hm => by cases hm⟩
    · rcases first_split L r with h | ⟨u, m, v, rfl, hm, hv⟩
      · exact .inl (fun m hm => by rcases List.mem_cons.1 hm with rfl | hm; exact hn; exact h m hm)
      · exact .inr ⟨n :: u, m, v, rfl, hm, fun k hk => by rcases List.mem_cons.1 hk with rfl | hk; exact hn; exact hv k hk⟩
theorem lst_mem_or {p L : Nat} (ns : List (Nd δ)) : (lst p L ns = p ∧ ∀ n ∈ ns, ¬ L < n.h) ∨ ∃ u n v, ns = u ++ n :: v ∧ L < n.h ∧ (∀ m ∈ v, ¬ L < m.h) ∧ lst p L ns = n.b := by
  rcases last_split L ns with h | ⟨u, n, v, rfl, hn, hv⟩
  · exact .inl ⟨lst_skip p ns h, h⟩
  · exact .inr ⟨u, n, v, rfl, hn, hv, lst_split hn hv⟩

/-! in memory -/
/-- the block b (of type t, sz cells) is a node's: the deed's truth, its row, the links -/
def At (w : World) (b t sz : Nat) (g v : Go.Value) (h : Nat) (rest : List (Nd δ)) : Prop :=
  ∃ cs : Array Go.Value, w.heap[b]? = some (.cells cs t (0, 0)) ∧ cs.size = sz ∧ 10 ≤ sz ∧ cs[0]? = some g ∧ cs[1]? = some v ∧ ∀ L, L < 8 → cs[2 + L]? = some (ptrAt h L rest)
section
variable {w w1 : World} {b t sz : Nat} {g v : Go.Value} {h : Nat} {rest rest' : List (Nd δ)}
theorem At.keep (H : At w b t sz g v h rest) (e : w1.heap[b]? = w.heap[b]?) : At w1 b t sz g v h rest := by
  obtain ⟨cs, h1, r⟩ := H
  exact ⟨cs, e.trans h1, r⟩
theorem At.congr (H : At w b t sz g v h rest) {h' : Nat} (e : ∀ L, L < 8 → ptrAt h L rest = ptrAt h' L rest') : At w b t sz g v h' rest' := by
  obtain ⟨cs, h1, h2, h3, h4, h5, h6⟩ := H
  exact ⟨cs, h1, h2, h3, h4, h5, fun L hL => (h6 L hL).trans (by rw [e L hL])⟩
theorem At.lt (H : At w b t sz g v h rest) : b < w.heap.size := by
  obtain ⟨cs, h1, _⟩ := H
  exact (Array.getElem?_eq_some_iff.1 h1).1
theorem At.c0 (H : At w b t sz g v h rest) : w.cell? ⟨b, 0, none⟩ = some g := by
  obtain ⟨cs, h1, h2, h3, h4, h5, h6⟩ := H
  simp [World.cell?, h1, h4]
theorem At.c1 (H : At w b t sz g v h rest) : w.cell? ⟨b, 1, none⟩ = some v := by
  obtain ⟨cs, h1, h2, h3, h4, h5, h6⟩ := H
  simp [World.cell?, h1, h5]
theorem At.link (H : At w b t sz g v h rest) (L : Nat) (hL : L < 8) : w.cell? ⟨b, 2 + L, none⟩ = some (ptrAt h L rest) := by
  obtain ⟨cs, h1, h2, h3, h4, h5, h6⟩ := H
  simp [World.cell?, h1, h6 L hL]
theorem At.thaw (H : At w b t sz g v h rest) (j : Nat) : w.frozen? ⟨b, j, none⟩ = false := by
  obtain ⟨cs, h1, _⟩ := H
  simp [World.frozen?, h1]
theorem heap_set {cs : Array Go.Value} (hb : w.heap[b]? = some (.cells cs t (0, 0))) (j : Nat) (x : Go.Value) : (w.setCell ⟨b, j, none⟩ x).heap[b]? = some (.cells (cs.setIfInBounds j x) t (0, 0)) := by
  simp [World.setCell, Array.getElem?_modify, hb]
theorem heap_set_ne (w : World) (b j b' : Nat) (x : Go.Value) (hne : b' ≠ b) : (w.setCell ⟨b, j, none⟩ x).heap[b']? = w.heap[b']? := by
  simp only [World.setCell, Array.getElem?_modify]
  rw [if_neg (fun e => hne e.symm)]
theorem At.setLink (H : At w b t sz g v h rest) (i : Nat) (hi : i < 8) (x : Go.Value) (h' : Nat) (e : ∀ L, L < 8 → L ≠ i → ptrAt h L rest = ptrAt h' L rest') (ei : x = ptrAt h' i rest') : At (w.setCell ⟨b, 2 + i, none⟩ x) b t sz g v h' rest' := by
  obtain ⟨cs, h1, h2, h3, h4, h5, h6⟩ := H
  refine ⟨_, heap_set h1 _ _, by simpa using h2, h3, ?_, ?_, fun L hL => ?_⟩
  · rw [Array.getElem?_setIfInBounds, if_neg (by omega)]; exact h4
  · rw [Array.getElem?_setIfInBounds, if_neg (by omega)]; exact h5
  · rw [Array.getElem?_setIfInBounds]
    by_cases hLi : L = i
    · subst hLi
      rw [if_pos rfl, if_pos (by omega), ei]
    · rw [if_neg (by omega), h6 L hL, e L hL hLi]
theorem At.setDeed (H : At w b t sz g v h rest) (g' v' : Go.Value) : At ((w.setCell ⟨b, 0, none⟩ g').setCell ⟨b, 1, none⟩ v') b t sz g' v' h rest := by
  obtain ⟨cs, h1, h2, h3, h4, h5, h6⟩ := H
  refine ⟨_, heap_set (heap_set h1 0 g') 1 v', by simpa using h2, h3, ?_, ?_, fun L hL => ?_⟩
  · rw [Array.getElem?_setIfInBounds, if_neg (by omega), Array.getElem?_setIfInBounds, if_pos rfl, if_pos (by omega)]
  · rw [Array.getElem?_setIfInBounds, if_pos rfl, if_pos (by simp; omega)]
  · rw [Array.getElem?_setIfInBounds, if_neg (by omega), Array.getElem?_setIfInBounds, if_neg (by omega)]; exact h6 L hL
end
/-- the nodes lie in w, linked, behind the head p; each with its deed's truth (tr) -/
structure Chain (tr : δ → Bool) (tn th : Nat) (w : World) (p : Nat) (ns : List (Nd δ)) : Prop where
  head : At w p th 13 (.bool false) (.slice none 0 0) 8 ns
  node : ∀ u n v, ns = u ++ n :: v → At w n.b tn 10 (.bool (tr n.d)) n.v n.h v
  high : ∀ n ∈ ns, n.h ≤ 8
  ne : ∀ n ∈ ns, n.b ≠ p
  nodup : (ns.map (·.b)).Nodup
section
variable {tr : δ → Bool} {tn th : Nat} {w w1 : World} {p : Nat} {ns : List (Nd δ)}
theorem Chain.keep (H : Chain tr tn th w p ns) (e0 : w1.heap[p]? = w.heap[p]?) (e : ∀ n ∈ ns, w1.heap[n.b]? = w.heap[n.b]?) : Chain tr tn th w1 p ns :=
  ⟨H.head.keep e0, fun u n v hs => (H.node u n v hs).keep (e n (by rw [hs]; simp)), H.high, H.ne, H.nodup⟩
/-- the link of the last one of u that is higher than L: to the first such one of v -/
theorem Chain.link (H : Chain tr tn th w p ns) {u v : List (Nd δ)} (hs : ns = u ++ v) (L : Nat) (hL : L < 8) : w.cell? ⟨lst p L u, 2 + L, none⟩ = some (ptr (nxt L v)) := by
  rcases lst_mem_or (p := p) (L := L) u with ⟨e, hu⟩ | ⟨u1, n, u2, rfl, hn, hu2, e⟩
  · rw [e, H.head.link L hL, ptrAt, if_pos hL, hs, nxt_skip u v hu]
  · rw [e]
    have := (H.node u1 n (u2 ++ v) (by rw [hs]; simp)).link L hL
    rw [this, ptrAt, if_pos hn, nxt_skip u2 v hu2]
theorem Chain.thaw (H : Chain tr tn th w p ns) {u v : List (Nd δ)} (hs : ns = u ++ v) (L j : Nat) : w.frozen? ⟨lst p L u, j, none⟩ = false := by
  rcases lst_mem_or (p := p) (L := L) u with ⟨e, hu⟩ | ⟨u1, n, u2, rfl, hn, hu2, e⟩
  · rw [e]; exact H.head.thaw j
  · rw [e]; exact (H.node u1 n (u2 ++ v) (by rw [hs]; simp)).thaw j
theorem lst_lt (H : Chain tr tn th w p ns) {u v : List (Nd δ)} (hs : ns = u ++ v) (L : Nat) : lst p L u < w.heap.size := by
  rcases lst_mem_or (p := p) (L := L) u with ⟨e, hu⟩ | ⟨u1, n, u2, rfl, hn, hu2, e⟩
  · rw [e]; exact H.head.lt
  · rw [e]; exact (H.node u1 n (u2 ++ v) (by rw [hs]; simp)).lt
theorem nodup_mid {u v : List (Nd δ)} {n : Nd δ} (h : ((u ++ n :: v).map (·.b)).Nodup) : (∀ m ∈ u, m.b ≠ n.b) ∧ (∀ m ∈ v, m.b ≠ n.b) := by
  rw [List.map_append, List.map_cons] at h
  have h1 := List.nodup_append.1 h
  have h2 := List.nodup_cons.1 h1.2.1
  refine ⟨fun m hm e => ?_, fun m hm e => ?_⟩
  · exact h1.2.2 _ (List.mem_map_of_mem hm) _ (List.mem_cons_self) e
  · exact h2.1 (by rw [← e]; exact List.mem_map_of_mem hm)
/-- a new node, linked nowhere yet -/
theorem Chain.fresh {u v : List (Nd δ)} (H : Chain tr tn th w p (u ++ v)) {nb : Nat} {rv : Go.Value} {d : δ} (hb : w1.heap[nb]? = some (.cells #[.bool (tr d), rv, .pointer none, .pointer none, .pointer none, .pointer none, .pointer none, .pointer none, .pointer none, .pointer none] tn (0, 0)))
    (e0 : w1.heap[p]? = w.heap[p]?) (e : ∀ n ∈ u ++ v, w1.heap[n.b]? = w.heap[n.b]?) (hp : nb ≠ p) (hn : ∀ n ∈ u ++ v, n.b ≠ nb) : Chain tr tn th w1 p (u ++ ⟨nb, 0, rv, d⟩ :: v) := by
  have H1 := H.keep e0 e
  have nz : ∀ (a c : List (Nd δ)) (L : Nat), nxt L (a ++ ⟨nb, 0, rv, d⟩ :: c) = nxt L (a ++ c) := by
    intro a c L
    induction a with
    | nil => exact nxt_cons_miss (Nat.not_lt_zero _)
    | cons m a ih =>
      by_cases h : L < m.h
      · rw [List.cons_append, List.cons_append, nxt_cons_hit h, nxt_cons_hit h]
      · rw [List.cons_append, List.cons_append, nxt_cons_miss h, nxt_cons_miss h, ih]
  refine ⟨H1.head.congr (fun L _ => by simp only [ptrAt]; rw [nz]), fun a n c hs => ?_, fun n hm => ?_, fun n hm => ?_, ?_⟩
  · rw [List.append_eq_append_iff] at hs
    rcases hs with ⟨a', ha, hc⟩ | ⟨c', hc1, hc2⟩
    · cases a' with
      | nil =>
        simp only [List.nil_append, List.cons.injEq] at hc
        obtain ⟨rfl, rfl⟩ := hc
        refine ⟨_, hb, rfl, by omega, rfl, rfl, fun L hL => ?_⟩
        rw [ptrAt, if_neg (Nat.not_lt_zero _)]
        have : ∀ L, L < 8 → (#[Go.Value.bool (tr d), rv, .pointer none, .pointer none, .pointer none, .pointer none, .pointer none, .pointer none, .pointer none, .pointer none] : Array Go.Value)[2 + L]? = some (.pointer none) := by
          intro L hL
          match L, hL with
          | 0, _ => rfl
          | 1, _ => rfl
          | 2, _ => rfl
          | 3, _ => rfl
          | 4, _ => rfl
          | 5, _ => rfl
          | 6, _ => rfl
          | 7, _ => rfl
        exact this L hL
      | cons m a' =>
        simp only [List.cons_append, List.cons.injEq] at hc
        obtain ⟨rfl, rfl⟩ := hc
        exact H1.node (u ++ a') n c (by simp)
    · cases c' with
      | nil =>
        simp only [List.nil_append, List.cons.injEq] at hc2
        obtain ⟨rfl, rfl⟩ := hc2
        refine ⟨_, hb, rfl, by omega, rfl, rfl, fun L hL => ?_⟩
        rw [ptrAt, if_neg (Nat.not_lt_zero _)]
        match L, hL with
        | 0, _ => rfl
        | 1, _ => rfl
        | 2, _ => rfl
        | 3, _ => rfl
        | 4, _ => rfl
        | 5, _ => rfl
        | 6, _ => rfl
        | 7, _ => rfl
      | cons m c' =>
        simp only [List.cons_append, List.cons.injEq] at hc2
        obtain ⟨rfl, rfl⟩ := hc2
        exact (H1.node a n (c' ++ v) (by rw [hc1]; simp)).congr (fun L _ => by simp only [ptrAt]; rw [nz])
  · rcases List.mem_append.1 hm with h | h
    · exact H.high n (List.mem_append_left _ h)
    · rcases List.mem_cons.1 h with rfl | h
      · exact Nat.zero_le _
      · exact H.high n (List.mem_append_right _ h)
  · rcases List.mem_append.1 hm with h | h
    · exact H.ne n (List.mem_append_left _ h)
    · rcases List.mem_cons.1 h with rfl | h
      · exact hp
      · exact H.ne n (List.mem_append_right _ h)
  · have hd := H.nodup
    rw [List.map_append] at hd ⊢
    rw [List.map_cons]
    have h1 := List.nodup_append.1 hd
    refine List.nodup_append.2 ⟨h1.1, List.nodup_cons.2 ⟨fun hm => ?_, h1.2.1⟩, fun x hx y hy e => ?_⟩
    · obtain ⟨m, hm, e⟩ := List.mem_map.1 hm
      exact hn m (List.mem_append_right _ hm) e
    · subst e
      rcases List.mem_cons.1 hy with e | hy
      · obtain ⟨m, hm, e2⟩ := List.mem_map.1 hx
        exact hn m (List.mem_append_left _ hm) (e2.trans e)
      · exact h1.2.2 x hx x hy rfl
/-- linked in at one level more -/
theorem Chain.grow {u v : List (Nd δ)} {nb i : Nat} {rv : Go.Value} {d : δ} (H : Chain tr tn th w p (u ++ ⟨nb, i, rv, d⟩ :: v)) (hi : i < 8) :
    Chain tr tn th ((w.setCell ⟨nb, 2 + i, none⟩ (ptr (nxt i v))).setCell ⟨lst p i u, 2 + i, none⟩ (ptr (some nb))) p (u ++ ⟨nb, i + 1, rv, d⟩ :: v) := by
  have hnd := nodup_mid H.nodup
  have hnp : nb ≠ p := H.ne ⟨nb, i, rv, d⟩ (by simp)
  have hne : lst p i u ≠ nb := by
    rcases lst_mem_or (p := p) (L := i) u with ⟨e, _⟩ | ⟨u1, n, u2, hu, hn, _, e⟩
    · rw [e]; exact fun h => hnp h.symm
    · rw [e]; exact hnd.1 n (by rw [hu]; simp)
  have cong : ∀ (a : List (Nd δ)) (L : Nat), L ≠ i → nxt L (a ++ ⟨nb, i + 1, rv, d⟩ :: v) = nxt L (a ++ ⟨nb, i, rv, d⟩ :: v) := fun a L hL =>
    nxt_congr (n := ⟨nb, i, rv, d⟩) (n' := ⟨nb, i + 1, rv, d⟩) rfl (by show L < i + 1 ↔ L < i; omega) a v
  refine ⟨?_, fun a n c hs => ?_, fun n hm => ?_, fun n hm => ?_, by have := H.nodup; simpa using this⟩
  · -- the head
    rcases lst_mem_or (p := p) (L := i) u with ⟨e, hu⟩ | ⟨u1, n, u2, hu, hn, _, e⟩
    · rw [e]
      refine (H.head.keep (heap_set_ne w _ _ _ _ (fun h => hnp h.symm))).setLink i hi _ 8 (fun L hL hLi => ?_) ?_
      · simp only [ptrAt, if_pos hL, cong u L hLi]
      · simp only [ptrAt, if_pos hi]
        rw [nxt_skip u _ hu, nxt_cons_hit (Nat.lt_succ_self i)]
    · rw [e]
      have hnb : n.b ≠ p := H.ne n (by rw [hu]; simp)
      refine ((H.head.keep (heap_set_ne w _ _ _ _ (fun h => hnp h.symm))).keep (heap_set_ne _ _ _ _ _ (fun h => hnb h.symm))).congr (fun L hL => ?_)
      by_cases hLi : L = i
      · subst hLi
        simp only [ptrAt, if_pos hL]
        rw [nxt_hit_app u _ ⟨n, by rw [hu]; simp, hn⟩, nxt_hit_app u _ ⟨n, by rw [hu]; simp, hn⟩]
      · simp only [ptrAt, if_pos hL, cong u L hLi]
  · have hcases : (∃ r, u = a ++ n :: r ∧ c = r ++ ⟨nb, i + 1, rv, d⟩ :: v) ∨ (a = u ∧ n = ⟨nb, i + 1, rv, d⟩ ∧ c = v) ∨ (∃ r, a = u ++ ⟨nb, i + 1, rv, d⟩ :: r ∧ v = r ++ n :: c) := by
      rw [List.append_eq_append_iff] at hs
      rcases hs with ⟨a', ha, hc⟩ | ⟨c', hc1, hc2⟩
      · cases a' with
        | nil =>
          simp only [List.nil_append, List.cons.injEq] at hc
          obtain ⟨rfl, rfl⟩ := hc
          exact .inr (.inl ⟨by simpa using ha, rfl, rfl⟩)
        | cons m a' =>
          simp only [List.cons_append, List.cons.injEq] at hc
          obtain ⟨rfl, rfl⟩ := hc
          exact .inr (.inr ⟨a', ha, rfl⟩)
      · cases c' with
        | nil =>
          simp only [List.nil_append, List.cons.injEq] at hc2
          obtain ⟨rfl, rfl⟩ := hc2
          exact .inr (.inl ⟨by simpa using hc1.symm, rfl, rfl⟩)
        | cons m c' =>
          simp only [List.cons_append, List.cons.injEq] at hc2
          obtain ⟨rfl, rfl⟩ := hc2
          exact .inl ⟨c', hc1, rfl⟩
    rcases hcases with ⟨r, hu, rfl⟩ | ⟨rfl, rfl, rfl⟩ | ⟨r, rfl, hv⟩
    · have H0 := H.node a n (r ++ ⟨nb, i, rv, d⟩ :: v) (by rw [hu]; simp)
      have hnn : n.b ≠ nb := hnd.1 n (by rw [hu]; simp)
      have H1 := H0.keep (heap_set_ne w nb (2 + i) n.b (ptr (nxt i v)) hnn)
      by_cases hA : i < n.h ∧ ∀ m ∈ r, ¬ i < m.h
      · have e : lst p i u = n.b := by rw [hu]; exact lst_split hA.1 hA.2
        rw [e]
        refine H1.setLink i hi _ n.h (fun L hL hLi => ?_) ?_
        · simp only [ptrAt, cong r L hLi]
        · simp only [ptrAt, if_pos hA.1]
          rw [nxt_skip r _ hA.2, nxt_cons_hit (Nat.lt_succ_self i)]
      · have hne2 : n.b ≠ lst p i u := by
          rcases lst_mem_or (p := p) (L := i) u with ⟨e, _⟩ | ⟨u1, m, u2, hu', hm, hu2, e⟩
          · rw [e]; exact H.ne n (by rw [hu]; simp)
          · rw [e]
            intro hb
            have hdu : (u.map (·.b)).Nodup := by
              have := H.nodup
              rw [List.map_append] at this
              exact (List.nodup_append.1 this).1
            -- the same block: the same place
            rw [hu, List.append_eq_append_iff] at hu'
            rw [hu] at hdu
            rcases hu' with ⟨a', ha, hc⟩ | ⟨c', hc1, hc2⟩
            · cases a' with
              | nil =>
                simp only [List.nil_append, List.cons.injEq] at hc
                obtain ⟨rfl, rfl⟩ := hc
                exact hA ⟨hm, hu2⟩
              | cons k a' =>
                simp only [List.cons_append, List.cons.injEq] at hc
                obtain ⟨rfl, hr⟩ := hc
                exact (nodup_mid hdu).2 m (by rw [hr]; simp) hb.symm
            · cases c' with
              | nil =>
                simp only [List.nil_append, List.cons.injEq] at hc2
                obtain ⟨rfl, rfl⟩ := hc2
                exact hA ⟨hm, hu2⟩
              | cons k c' =>
                simp only [List.cons_append, List.cons.injEq] at hc2
                obtain ⟨rfl, hr⟩ := hc2
                exact (nodup_mid hdu).1 m (by rw [hc1]; simp) hb.symm
        refine (H1.keep (heap_set_ne _ _ _ _ _ hne2)).congr (fun L hL => ?_)
        by_cases hLi : L = i
        · subst hLi
          simp only [ptrAt]
          by_cases hn : L < n.h
          · have hx : ∃ m ∈ r, L < m.h := by
              by_cases hx : ∃ m ∈ r, L < m.h
              · exact hx
              · exact absurd ⟨hn, fun m hm hh => hx ⟨m, hm, hh⟩⟩ hA
            rw [if_pos hn, if_pos hn, nxt_hit_app r _ hx, nxt_hit_app r _ hx]
          · rw [if_neg hn, if_neg hn]
        · simp only [ptrAt, cong r L hLi]
    · have H0 := H.node a ⟨nb, i, rv, d⟩ c rfl
      have H1 : At (w.setCell ⟨nb, 2 + i, none⟩ (ptr (nxt i c))) nb tn 10 (.bool (tr d)) rv (i + 1) c := by
        refine H0.setLink i hi _ (i + 1) (fun L hL hLi => ?_) ?_
        · simp only [ptrAt]
          by_cases h : L < i
          · rw [if_pos h, if_pos (by omega)]
          · rw [if_neg h, if_neg (by omega)]
        · simp only [ptrAt, if_pos (Nat.lt_succ_self i)]
      exact H1.keep (heap_set_ne _ _ _ _ _ (fun h => hne h.symm))
    · have H0 := H.node (u ++ ⟨nb, i, rv, d⟩ :: r) n c (by rw [hv]; simp)
      have hnn : n.b ≠ nb := hnd.2 n (by rw [hv]; simp)
      have hne2 : n.b ≠ lst p i u := by
        rcases lst_mem_or (p := p) (L := i) u with ⟨e, _⟩ | ⟨u1, m, u2, hu', hm, hu2, e⟩
        · rw [e]; exact H.ne n (by rw [hv]; simp)
        · rw [e]
          have hd := H.nodup
          rw [List.map_append] at hd
          intro hb
          exact (List.nodup_append.1 hd).2.2 m.b (List.mem_map_of_mem (by rw [hu']; simp)) n.b (List.mem_map_of_mem (by rw [hv]; simp)) hb.symm
      exact (H0.keep (heap_set_ne _ _ _ _ _ hnn)).keep (heap_set_ne _ _ _ _ _ hne2)
  · rcases List.mem_append.1 hm with h | h
    · exact H.high n (List.mem_append_left _ h)
    · rcases List.mem_cons.1 h with rfl | h
      · show i + 1 ≤ 8; omega
      · exact H.high n (List.mem_append_right _ (List.mem_cons_of_mem _ h))
  · rcases List.mem_append.1 hm with h | h
    · exact H.ne n (List.mem_append_left _ h)
    · rcases List.mem_cons.1 h with rfl | h
      · exact hnp
      · exact H.ne n (List.mem_append_right _ (List.mem_cons_of_mem _ h))
/-- another deed at a node -/
theorem Chain.put {u v : List (Nd δ)} {n : Nd δ} (H : Chain tr tn th w p (u ++ n :: v)) (rv : Go.Value) (d : δ) :
    Chain tr tn th ((w.setCell ⟨n.b, 0, none⟩ (.bool (tr d))).setCell ⟨n.b, 1, none⟩ rv) p (u ++ ⟨n.b, n.h, rv, d⟩ :: v) := by
  have hnd := nodup_mid H.nodup
  have hnp : n.b ≠ p := H.ne n (by simp)
  have cong : ∀ (a : List (Nd δ)) (L : Nat), nxt L (a ++ ⟨n.b, n.h, rv, d⟩ :: v) = nxt L (a ++ n :: v) := fun a L => nxt_congr (n := n) (n' := ⟨n.b, n.h, rv, d⟩) rfl Iff.rfl a v
  have far : ∀ b', b' ≠ n.b → ((w.setCell ⟨n.b, 0, none⟩ (.bool (tr d))).setCell ⟨n.b, 1, none⟩ rv).heap[b']? = w.heap[b']? := fun b' hb => (heap_set_ne _ _ _ _ _ hb).trans (heap_set_ne _ _ _ _ _ hb)
  refine ⟨(H.head.keep (far p (fun h => hnp h.symm))).congr (fun L hL => by simp only [ptrAt, cong]), fun a m c hs => ?_, fun m hm => ?_, fun m hm => ?_, by have := H.nodup; simpa using this⟩
  · rw [List.append_eq_append_iff] at hs
    rcases hs with ⟨a', ha, hc⟩ | ⟨c', hc1, hc2⟩
    · cases a' with
      | nil =>
        simp only [List.nil_append, List.cons.injEq] at hc
        obtain ⟨rfl, rfl⟩ := hc
        exact (H.node u n v rfl).setDeed _ _
      | cons k a' =>
        simp only [List.cons_append, List.cons.injEq] at hc
        obtain ⟨rfl, rfl⟩ := hc
        exact (H.node (u ++ n :: a') m c (by simp)).keep (far _ (hnd.2 m (by simp)))
    · cases c' with
      | nil =>
        simp only [List.nil_append, List.cons.injEq] at hc2
        obtain ⟨rfl, rfl⟩ := hc2
        exact (H.node u n _ rfl).setDeed _ _
      | cons k c' =>
        simp only [List.cons_append, List.cons.injEq] at hc2
        obtain ⟨rfl, rfl⟩ := hc2
        exact ((H.node a m (c' ++ n :: v) (by rw [hc1]; simp)).keep (far _ (hnd.1 m (by rw [hc1]; simp)))).congr (fun L hL => by simp only [ptrAt, cong])
  · rcases List.mem_append.1 hm with h | h
    · exact H.high m (List.mem_append_left _ h)
    · rcases List.mem_cons.1 h with rfl | h
      · exact H.high n (by simp)
      · exact H.high m (List.mem_append_right _ (List.mem_cons_of_mem _ h))
  · rcases List.mem_append.1 hm with h | h
    · exact H.ne m (List.mem_append_left _ h)
    · rcases List.mem_cons.1 h with rfl | h
      · exact hnp
      · exact H.ne m (List.mem_append_right _ (List.mem_cons_of_mem _ h))
/-- a cell of the head's, behind the links -/
theorem At.setRest {b t sz : Nat} {g v : Go.Value} {h : Nat} {rest : List (Nd δ)} (H : At w b t sz g v h rest) (j : Nat) (hj : 10 ≤ j) (x : Go.Value) : At (w.setCell ⟨b, j, none⟩ x) b t sz g v h rest := by
  obtain ⟨cs, h1, h2, h3, h4, h5, h6⟩ := H
  refine ⟨_, heap_set h1 _ _, by simpa using h2, h3, ?_, ?_, fun L hL => ?_⟩
  · rw [Array.getElem?_setIfInBounds, if_neg (by omega)]; exact h4
  · rw [Array.getElem?_setIfInBounds, if_neg (by omega)]; exact h5
  · rw [Array.getElem?_setIfInBounds, if_neg (by omega)]; exact h6 L hL
theorem Chain.setRest (H : Chain tr tn th w p ns) (j : Nat) (hj : 10 ≤ j) (x : Go.Value) : Chain tr tn th (w.setCell ⟨p, j, none⟩ x) p ns :=
  ⟨H.head.setRest j hj x, fun u n v hs => (H.node u n v hs).keep (heap_set_ne _ _ _ _ _ (H.ne n (by rw [hs]; simp))), H.high, H.ne, H.nodup⟩
end
end Go.Proofs.Ytnfliommpdjlkaa.Sk
end
section
namespace Go.Proofs.Ytnfliommpdjlkaa.Pr
open Go.RowKit Go.Proofs.Ytnfliommpdjlkaa.Brid Go.Proofs.YtnfliommpdjlkaaW.PrintWords Go.Proofs.YtnfliommpdjlkaaW.PrintLast Go.Proofs.YtnfliommpdjlkaaW.PrintMore
set_option linter.unusedVariables false
set_option linter.unusedSimpArgs false
set_option maxHeartbeats 4000000
set_option maxRecDepth 100000
/-- the same world but for the count of what was drawn -/
def Sim (w' w : World) : Prop := w'.heap = w.heap ∧ w'.os = w.os ∧ w'.tape = w.tape ∧ w'.output = w.output
theorem set_set (w : World) (p j : Nat) (x y : Value) : ((w.setCell ⟨p, j, none⟩ x).setCell ⟨p, j, none⟩ y).heap = (w.setCell ⟨p, j, none⟩ y).heap := by
  apply Array.ext_getElem?
  intro i
  simp only [World.setCell, Array.getElem?_modify]
  by_cases h : p = i
  · subst h
    simp only [if_pos]
    cases w.heap[p]? with
    | none => rfl
    | some o => cases o <;> simp
  · simp only [if_neg h]
theorem Sim.set2 {a b w : World} {p j : Nat} {x : Value} (h : Sim a (w.setCell ⟨p, j, none⟩ x)) (y : Value) (hb : Sim b (a.setCell ⟨p, j, none⟩ y)) : Sim b (w.setCell ⟨p, j, none⟩ y) := by
  obtain ⟨h1, h2, h3, h4⟩ := h
  obtain ⟨k1, k2, k3, k4⟩ := hb
  refine ⟨?_, k2.trans h2, k3.trans h3, k4.trans h4⟩
  have e : (a.setCell ⟨p, j, none⟩ y).heap = ((w.setCell ⟨p, j, none⟩ x).setCell ⟨p, j, none⟩ y).heap := by simp only [World.setCell] at *; rw [h1]
  rw [k1, e, set_set]
theorem levels_T (p : Nat) (s : Int) (w : World) (hc : w.cell? ⟨p, 10, none⟩ = some (.int .u64 s)) (hf : w.frozen? ⟨p, 10, none⟩ = false) : Calls Try.prog 42 #[.pointer (some ⟨p, 0, none⟩)] w fun e w' => ∃ n : Int, e = .returned (.int .i64 n) ∧ 1 ≤ n ∧ n ≤ 8 ∧ ∃ s' : Int, Sim w' (w.setCell ⟨p, 10, none⟩ (.int .u64 s')) := by
  go_enter Try.func42, Try.ntmps42
  go_wp2
  go_region
  generalize bits BinOp.xor IntKind.u64 s (IntKind.u64.wrap (s * 8192)) = s1
  have hc1 : ((w.setCell ⟨p, 10, none⟩ (.int .u64 s1))).drew.cell? ⟨p, 10, none⟩ = some (.int .u64 s1) := World.cell?_setCell_same' _ _ _ (by rw [hc]; rfl)
  have hf1 : ((w.setCell ⟨p, 10, none⟩ (.int .u64 s1))).drew.frozen? ⟨p, 10, none⟩ = false := (World.frozen?_setCell _ _ _ _).trans hf
  have ha1 : Aside0 (Sim ((w.setCell ⟨p, 10, none⟩ (.int .u64 s1))).drew (w.setCell ⟨p, 10, none⟩ (.int .u64 s1))) := ⟨⟨rfl, rfl, rfl, rfl⟩⟩
  generalize ((w.setCell ⟨p, 10, none⟩ (.int .u64 s1))).drew = w1 at *
  clear hc hf
  go_wp2
  go_region
  generalize bits BinOp.xor IntKind.u64 s1 (s1 / 128) = s2
  have hc2 : ((w1.setCell ⟨p, 10, none⟩ (.int .u64 s2))).drew.cell? ⟨p, 10, none⟩ = some (.int .u64 s2) := World.cell?_setCell_same' _ _ _ (by rw [hc1]; rfl)
  have hf2 : ((w1.setCell ⟨p, 10, none⟩ (.int .u64 s2))).drew.frozen? ⟨p, 10, none⟩ = false := (World.frozen?_setCell _ _ _ _).trans hf1
  have ha2 : Aside0 (Sim ((w1.setCell ⟨p, 10, none⟩ (.int .u64 s2))).drew (w.setCell ⟨p, 10, none⟩ (.int .u64 s2))) := ⟨Sim.set2 ha1.out _ ⟨rfl, rfl, rfl, rfl⟩⟩
  generalize ((w1.setCell ⟨p, 10, none⟩ (.int .u64 s2))).drew = w2 at *
  clear hc1 hf1 ha1
  go_wp2
  go_region
  generalize bits BinOp.xor IntKind.u64 s2 _ = s3
  have hc3 : ((w2.setCell ⟨p, 10, none⟩ (.int .u64 s3))).drew.cell? ⟨p, 10, none⟩ = some (.int .u64 s3) := World.cell?_setCell_same' _ _ _ (by rw [hc2]; rfl)
  have ha3 : Aside0 (Sim ((w2.setCell ⟨p, 10, none⟩ (.int .u64 s3))).drew (w.setCell ⟨p, 10, none⟩ (.int .u64 s3))) := ⟨Sim.set2 ha2.out _ ⟨rfl, rfl, rfl, rfl⟩⟩
  generalize ((w2.setCell ⟨p, 10, none⟩ (.int .u64 s3))).drew = w3 at *
  clear hc2 hf2 ha2
  go_wp2
  go_loopg [3, 4] 8 (fun kx a b wr => ∃ n x : Int, a = .int .i64 n ∧ b = .int .u64 x ∧ 1 ≤ n ∧ n ≤ 8 ∧ 8 - n.toNat ≤ kx ∧ wr = w3)
  case atStart => exact ⟨_, _, rfl, rfl, by omega, by omega, by simp, rfl⟩
  case round =>
    obtain ⟨n, x, rfl, rfl, h1, h8, hk, rfl⟩ := hrel
    by_cases hn : n < 8
    · by_cases hx : bits BinOp.and IntKind.u64 x 3 = 0
      · have hw : IntKind.i64.wrap (n + 1) = n + 1 := by rw [IntKind.wrap_i64]; omega
        go_wp2
        go_roundg (8 - (n + 1).toNat)
        case measure => omega
        case rel => exact ⟨n + 1, _, rfl, rfl, by omega, by omega, by omega, rfl⟩
      · go_wp2
        go_ret
        exact ⟨n, rfl, h1, h8, s3, ha3.out⟩
    · go_wp2
      go_ret
      exact ⟨n, rfl, h1, h8, s3, ha3.out⟩

def lessT (a b : S27) : Bool := Thy.less a.f0 a.f1 a.f2 b.f0 b.f1 b.f2
/-- a deed's key -/
def keyT (d : S25) : S27 := rd_T27 d.f1 0
abbrev cellsT (x : S27) : Array Value := #[.bool x.f0, .int .i64 x.f1, .string x.f2]
/-- the nodes' rows are read -/
def RowsOk (w : World) (ns : List (Sk.Nd S25)) : Prop := ∀ n ∈ ns, ∃ A c, n.v = .slice (some A) n.d.f1.length c ∧ n.d.f1.length ≤ c ∧ Kd.C k27 w (some A) n.d.f1.length n.d.f1 ∧ 0 < n.d.f1.length
theorem cmp_T (a b : S27) (w : World) : Calls Try.prog 45 #[.agg (cellsT a), .agg (cellsT b)] w fun e w' => e = .returned (.int .i64 (Thy.cmpV a.f0 a.f1 a.f2 b.f0 b.f1 b.f2)) ∧ Below w.heap.size w w' := by
  have := kinds_Compare_c.calls a.f0 a.f1 a.f2 b.f0 b.f1 b.f2 _ w rfl
  exact this
abbrev nil8 : Array Value := #[.pointer none, .pointer none, .pointer none, .pointer none, .pointer none, .pointer none, .pointer none, .pointer none]
def pathV (p : Nat) (pre : List (Sk.Nd S25)) (L : Nat) : Value := .pointer (some ⟨Sk.lst p L pre, 0, none⟩)
/-- A world behind w, whatever it is, in which all that lies in w lies as it was. -/
structure SomeW (w : World) where
  W : World
  h : Below w.heap.size w W
instance someW_inhabited (w : World) : Inhabited (SomeW w) := ⟨⟨w, Below.refl _ w⟩⟩
theorem wp_region_quiet_some {P : Program} {id : Nat} {Q : Exit → Act → World → Prop} {a : Act} {w : World} {l : List Oper} (hm : P.follows .mixedOrders = true) (hB : Region.lexB .any l.toArray = true)
    (h : wpQuiet P l.toArray (fun w' => ∃ p : SomeW w, w' = p.W) (fun a' => ∀ w', (∃ p : SomeW w, w' = p.W) → Q .normal a' w') l a) : (Code.region id l.toArray true).wp P Q a w :=
  wp_region_quiet (C := fun w' => ∃ p : SomeW w, w' = p.W) hm hB ⟨⟨w.drew, (Below.refl _ w).drew⟩, rfl⟩ (by simpa using h)
theorem Calls.below_some {P : Program} {f : FuncId} {args : Array Value} {w : World} {p : SomeW w} {v : Value}
    (h : Calls P f args p.W fun e w' => e = .returned v ∧ Below p.W.heap.size p.W w') : Calls P f args p.W fun e w'' => e = .returned v ∧ ∃ q : SomeW w, w'' = q.W :=
  h.mono fun _ w' ⟨he, hb⟩ => ⟨he, ⟨w', p.h.trans ⟨hb.os, hb.tape, hb.output, hb.size, fun i hi => hb.block i (Nat.lt_of_lt_of_le hi p.h.size)⟩⟩, rfl⟩
theorem mixed_T : Try.prog.follows .mixedOrders = true := by kernel_rfl
theorem cell_some {w : World} {a : Addr} {v : Value} (h : w.cell? a = some v) (p : SomeW w) : p.W.cell? a = some v := (Below.cell p.h (World.block_lt_of_cell? _ _ h)).trans h
/-- a node's row: where it lies, its key's cells -/
theorem RowsOk.at {w wr : World} {ns : List (Sk.Nd S25)} (H : RowsOk w ns) (B : Below w.heap.size w wr) {n : Sk.Nd S25} (hn : n ∈ ns) : ∃ A c, n.v = .slice (some A) n.d.f1.length c ∧ n.d.f1.length ≤ c ∧ (0 : Int) < (n.d.f1.length : Int) ∧
    wr.cell? A = some (.bool (keyT n.d).f0) ∧ wr.cell? ⟨A.block, A.off + 1, none⟩ = some (.int .i64 (keyT n.d).f1) ∧ wr.cell? ⟨A.block, A.off + 2, none⟩ = some (.string (keyT n.d).f2) := by
  obtain ⟨A, c, hv, hc, hC, hl⟩ := H n hn
  obtain ⟨ad, e, x0, x1, x2⟩ := at_T27 hC (0 : Int) (by omega) (by omega)
  cases e
  refine ⟨A, c, hv, hc, by omega, ?_, ?_, ?_⟩
  · have := (Below.cell B (World.block_lt_of_cell? _ _ x0)).trans x0
    simpa [Addr.add, keyT] using this
  · have := (Below.cell B (World.block_lt_of_cell? _ _ x1)).trans x1
    simpa [Addr.add, keyT] using this
  · have := (Below.cell B (World.block_lt_of_cell? _ _ x2)).trans x2
    simpa [Addr.add, keyT] using this
theorem path_T (p : Nat) (k : S27) (pre post : List (Sk.Nd S25)) (w : World) (H : Sk.Chain (·.f0) 69 71 w p (pre ++ post)) (HR : RowsOk w (pre ++ post))
    (hpre : ∀ n ∈ pre, lessT (keyT n.d) k = true) (hpost : ∀ n ∈ post, lessT (keyT n.d) k = false) :
    Calls Try.prog 41 #[.pointer (some ⟨p, 0, none⟩), .agg (cellsT k)] w fun e w' => e = .returned (.agg #[pathV p pre 0, pathV p pre 1, pathV p pre 2, pathV p pre 3, pathV p pre 4, pathV p pre 5, pathV p pre 6, pathV p pre 7]) ∧ Below w.heap.size w w' := by
  have b1 : Below w.heap.size w (w.alloc (.cells (cellsT k) 27)) := below_alloc (Below.refl _ _) _
  have b2 : Below w.heap.size w ((w.alloc (.cells (cellsT k) 27)).alloc (.cells nil8 67)) := below_alloc b1 _
  have b3 : Below w.heap.size w (((w.alloc (.cells (cellsT k) 27)).alloc (.cells nil8 67)).alloc (.cells nil8 67)) := below_alloc b2 _
  have s1 : (w.alloc (.cells (cellsT k) 27)).heap.size = w.heap.size + 1 := by simp
  have s2 : ((w.alloc (.cells (cellsT k) 27)).alloc (.cells nil8 67)).heap.size = w.heap.size + 2 := by simp
  have K0 : (((w.alloc (.cells (cellsT k) 27)).alloc (.cells nil8 67)).alloc (.cells nil8 67)).heap[w.heap.size]? = some (.cells (cellsT k) 27 (0, 0)) := blk_alloc (blk_alloc (heap_alloc_new w _) _) _
  have K1 : (((w.alloc (.cells (cellsT k) 27)).alloc (.cells nil8 67)).alloc (.cells nil8 67)).heap[w.heap.size + 1]? = some (.cells nil8 67 (0, 0)) := by
    have := heap_alloc_new (w.alloc (.cells (cellsT k) 27)) (.cells nil8 67)
    rw [s1] at this
    exact blk_alloc this _
  have K2 : (((w.alloc (.cells (cellsT k) 27)).alloc (.cells nil8 67)).alloc (.cells nil8 67)).heap[w.heap.size + 2]? = some (.cells nil8 67 (0, 0)) := by
    have := heap_alloc_new ((w.alloc (.cells (cellsT k) 27)).alloc (.cells nil8 67)) (.cells nil8 67)
    rw [s2] at this
    exact this
  have HK0 := Aside0.mk K0
  have HK1 := Aside0.mk K1
  have HK2 := Aside0.mk K2
  have HB3 := Aside0.mk b3
  have HH := Aside0.mk H
  have HHR := Aside0.mk HR
  have HPRE := Aside0.mk hpre
  have HPOST := Aside0.mk hpost
  have hi8 : Sk.lst p 8 pre = p := Sk.lst_skip p pre (fun n hn => by have := H.high n (List.mem_append_left _ hn); omega)
  clear H HR hpre hpost K0 K1 K2 b1 b2 b3 s1 s2
  go_enter Try.func41, Try.ntmps41
  go_wp2
  generalize hW : ((w.alloc (.cells (cellsT k) 27)).alloc (.cells nil8 67)).alloc (.cells nil8 67) = W at *
  go_loopg [6, 7] 8 (fun kx a b wr => ∃ (i1 : Nat) (cs : Array Value), i1 ≤ 8 ∧ b = .int .i64 ((i1 : Int) - 1) ∧ i1 ≤ kx ∧ a = .pointer (some ⟨Sk.lst p i1 pre, 0, none⟩) ∧ Aside0 (Below w.heap.size w wr) ∧ Aside0 (wr.heap[w.heap.size]? = some (.cells (cellsT k) 27 (0, 0))) ∧ Aside0 (wr.heap[w.heap.size + 1]? = some (.cells nil8 67 (0, 0))) ∧ Aside0 (wr.heap[w.heap.size + 2]? = some (.cells cs 67 (0, 0))) ∧ cs.size = 8 ∧ Aside0 (∀ L, i1 ≤ L → L < 8 → cs[L]? = some (pathV p pre L)))
  case atStart => exact ⟨8, nil8, by omega, rfl, by omega, by rw [hi8], HB3, HK0, HK1, HK2, rfl, ⟨fun L h1 h2 => by omega⟩⟩
  case round =>
    obtain ⟨i1, cs, h8, rfl, hkx, rfl, B, K0, K1, K2, hcs, HP⟩ := hrel
    by_cases hi : 1 ≤ i1
    · obtain ⟨i, rfl⟩ : ∃ i, i1 = i + 1 := ⟨i1 - 1, by omega⟩
      have e1 : (((i + 1 : Nat) : Int) - 1) = (i : Int) := by omega
      rw [e1]
      have hz : (0 : Int) ≤ (i : Int) := by omega
      have hz8 : (i : Int) < 8 := by omega
      go_wp2
      go_loopg [6] pre.length (fun kx a ws => ∃ u v, pre = u ++ v ∧ a = .pointer (some ⟨Sk.lst p i u, 0, none⟩) ∧ v.length ≤ kx ∧ Aside0 (Below w.heap.size w ws) ∧ Aside0 (ws.heap[w.heap.size]? = some (.cells (cellsT k) 27 (0, 0))) ∧ Aside0 (ws.heap[w.heap.size + 1]? = some (.cells nil8 67 (0, 0))) ∧ Aside0 (ws.heap[w.heap.size + 2]? = some (.cells cs 67 (0, 0))))
      case atStart =>
        rcases Sk.lst_mem_or (p := p) (L := i + 1) pre with ⟨e, _⟩ | ⟨u1, n, u2, hu, hn, _, e⟩
        · exact ⟨[], pre, rfl, by rw [e]; rfl, Nat.le_refl _, B, K0, K1, K2⟩
        · refine ⟨u1 ++ [n], u2, by rw [hu]; simp, ?_, by rw [hu]; simp; omega, B, K0, K1, K2⟩
          rw [e, Sk.lst_snoc_hit u1 (by omega)]
      case round =>
        clear B K0 K1 K2
        obtain ⟨u, v, huv, rfl, hkx, B, K0, K1, K2⟩ := hrel
        have hlk := HH.out.link (u := u) (v := v ++ post) (by rw [huv]; simp) i (by omega)
        have hlk2 := (Below.cell B.out (World.block_lt_of_cell? _ _ hlk)).trans hlk
        rcases Sk.first_split i v with hv | ⟨v1, n, v2, hv, hn, hv1⟩
        · rw [Sk.nxt_skip v post hv] at hlk2
          rcases Sk.first_split i post with hq | ⟨q1, n, q2, hq, hn, hq1⟩
          · rw [show Sk.nxt i post = none by have := Sk.nxt_skip post [] hq; rw [List.append_nil] at this; rw [this]; rfl] at hlk2
            have L0 : ∀ s : SomeW wr, s.W.cell? ⟨Sk.lst p i u, 2 + i, none⟩ = some (.pointer none) := fun s => cell_some hlk2 s
            clear hlk
            go_wp2_with fail
            refine wp_region_quiet_some mixed_T (by kernel_rfl) ?_
            repeat (go_big_quiet_step (fail))
            refine wpQuiet_nil ?_
            intro w3 hw'
            obtain ⟨p_, hp_⟩ := hw'
            have B4 : Aside0 (Below w.heap.size w w3) := by rw [hp_]; exact ⟨below_then B.out B.out.size p_.h⟩
            have K0' : Aside0 (w3.heap[w.heap.size]? = some (.cells (cellsT k) 27 (0, 0))) := by rw [hp_]; exact ⟨blk_below K0.out p_.h⟩
            have K1' : Aside0 (w3.heap[w.heap.size + 1]? = some (.cells nil8 67 (0, 0))) := by rw [hp_]; exact ⟨blk_below K1.out p_.h⟩
            have K2' : Aside0 (w3.heap[w.heap.size + 2]? = some (.cells cs 67 (0, 0))) := by rw [hp_]; exact ⟨blk_below K2.out p_.h⟩
            have Q1 : w3.cell? ⟨w.heap.size + 2, i, none⟩ = some cs[i]! := by rw [blk_cell K2'.out i, getElem!_pos cs i (by omega)]; exact Array.getElem?_eq_getElem _
            have Q2 : w3.frozen? ⟨w.heap.size + 2, i, none⟩ = false := blk_frozen K2'.out i
            clear hp_ p_ L0 B K0 K1 K2 hlk2
            go_wp2
            go_roundg i
            case measure => omega
            case rel =>
              refine ⟨i, cs.setIfInBounds i (.pointer (some ⟨Sk.lst p i u, 0, none⟩)), by omega, by go_num, by omega, by rw [huv, Sk.lst_app_skip u v hv], ⟨below_set B4.out (by omega)⟩, ⟨(Sk.heap_set_ne _ _ _ _ _ (by omega)).trans K0'.out⟩, ⟨(Sk.heap_set_ne _ _ _ _ _ (by omega)).trans K1'.out⟩, ⟨Sk.heap_set K2'.out _ _⟩, by simpa using hcs, ⟨fun L h1 h2 => ?_⟩⟩
              show (cs.setIfInBounds i _)[L]? = _
              rw [Array.getElem?_setIfInBounds]
              by_cases e : i = L
              · subst e
                rw [if_pos rfl, if_pos (by omega), pathV, huv, Sk.lst_app_skip u v hv]
              · rw [if_neg e]; exact HP.out L (by omega) h2
          · have hnx : Sk.nxt i post = some n.b := by rw [hq, Sk.nxt_skip q1 _ hq1, Sk.nxt_cons_hit hn]
            rw [hnx] at hlk2
            have hmem : n ∈ post := by rw [hq]; simp
            have hless := HPOST.out n hmem
            obtain ⟨A, c, hnv, hlc, hlen, x0, x1, x2⟩ := HHR.out.at B.out (List.mem_append_right pre hmem)
            obtain ⟨a1, a2, ha⟩ := List.append_of_mem (List.mem_append_right pre hmem)
            have hrow := (HH.out.node a1 n a2 ha).c1
            rw [hnv] at hrow
            have hrow2 := (Below.cell B.out (World.block_lt_of_cell? _ _ hrow)).trans hrow
            have hneg : ¬ Thy.cmpV (keyT n.d).f0 (keyT n.d).f1 (keyT n.d).f2 k.f0 k.f1 k.f2 < 0 := fun h => by rw [lessT, Thy.cmpV_lt.1 h] at hless; cases hless
            have hcmp := cmp_T (keyT n.d) k
            have hnegb := decide_eq_false hneg
            have L0 : ∀ s : SomeW wr, s.W.cell? ⟨Sk.lst p i u, 2 + i, none⟩ = some (.pointer (some ⟨n.b, 0, none⟩)) := fun s => cell_some hlk2 s
            have L1 : ∀ s : SomeW wr, s.W.cell? ⟨n.b, 1, none⟩ = some (.slice (some A) n.d.f1.length c) := fun s => cell_some hrow2 s
            have X0 : ∀ s : SomeW wr, s.W.cell? A = some (.bool (keyT n.d).f0) := fun s => cell_some x0 s
            have X1 : ∀ s : SomeW wr, s.W.cell? ⟨A.block, A.off + 1, none⟩ = some (.int .i64 (keyT n.d).f1) := fun s => cell_some x1 s
            have X2 : ∀ s : SomeW wr, s.W.cell? ⟨A.block, A.off + 2, none⟩ = some (.string (keyT n.d).f2) := fun s => cell_some x2 s
            have Y0 : ∀ s : SomeW wr, s.W.cell? ⟨w.heap.size, 0, none⟩ = some (.bool k.f0) := fun s => cell_some ((blk_cell K0.out 0).trans rfl) s
            have Y1 : ∀ s : SomeW wr, s.W.cell? ⟨w.heap.size, 1, none⟩ = some (.int .i64 k.f1) := fun s => cell_some ((blk_cell K0.out 1).trans rfl) s
            have Y2 : ∀ s : SomeW wr, s.W.cell? ⟨w.heap.size, 2, none⟩ = some (.string k.f2) := fun s => cell_some ((blk_cell K0.out 2).trans rfl) s
            clear hlk hrow hrow2 x0 x1 x2 hnv hlc
            generalize n.d.f1.length = ln at L1 hlen
            have hlenN : 0 < ln := by omega
            generalize keyT n.d = y at X0 X1 X2 hcmp hneg hnegb
            generalize Thy.cmpV y.f0 y.f1 y.f2 k.f0 k.f1 k.f2 = cv at hcmp hneg hnegb
            go_wp2_with fail
            refine wp_region_quiet_some mixed_T (by kernel_rfl) ?_
            repeat (go_big_quiet_step (first | (go_at_call 45; refine Calls.below_some (hcmp _))))
            refine wpQuiet_nil ?_
            intro w3 hw'
            obtain ⟨p_, hp_⟩ := hw'
            have B4 : Aside0 (Below w.heap.size w w3) := by rw [hp_]; exact ⟨below_then B.out B.out.size p_.h⟩
            have K0' : Aside0 (w3.heap[w.heap.size]? = some (.cells (cellsT k) 27 (0, 0))) := by rw [hp_]; exact ⟨blk_below K0.out p_.h⟩
            have K1' : Aside0 (w3.heap[w.heap.size + 1]? = some (.cells nil8 67 (0, 0))) := by rw [hp_]; exact ⟨blk_below K1.out p_.h⟩
            have K2' : Aside0 (w3.heap[w.heap.size + 2]? = some (.cells cs 67 (0, 0))) := by rw [hp_]; exact ⟨blk_below K2.out p_.h⟩
            have Q1 : w3.cell? ⟨w.heap.size + 2, i, none⟩ = some cs[i]! := by rw [blk_cell K2'.out i, getElem!_pos cs i (by omega)]; exact Array.getElem?_eq_getElem _
            have Q2 : w3.frozen? ⟨w.heap.size + 2, i, none⟩ = false := blk_frozen K2'.out i
            clear hp_ p_ L0 L1 X0 X1 X2 Y0 Y1 Y2 B K0 K1 K2 hlk2
            go_wp2
            go_roundg i
            case measure => omega
            case rel =>
              refine ⟨i, cs.setIfInBounds i (.pointer (some ⟨Sk.lst p i u, 0, none⟩)), by omega, by go_num, by omega, by rw [huv, Sk.lst_app_skip u v hv], ⟨below_set B4.out (by omega)⟩, ⟨(Sk.heap_set_ne _ _ _ _ _ (by omega)).trans K0'.out⟩, ⟨(Sk.heap_set_ne _ _ _ _ _ (by omega)).trans K1'.out⟩, ⟨Sk.heap_set K2'.out _ _⟩, by simpa using hcs, ⟨fun L h1 h2 => ?_⟩⟩
              show (cs.setIfInBounds i _)[L]? = _
              rw [Array.getElem?_setIfInBounds]
              by_cases e : i = L
              · subst e
                rw [if_pos rfl, if_pos (by omega), pathV, huv, Sk.lst_app_skip u v hv]
              · rw [if_neg e]; exact HP.out L (by omega) h2
        · have hnx : Sk.nxt i (v ++ post) = some n.b := by
            have : v ++ post = v1 ++ (n :: (v2 ++ post)) := by rw [hv]; simp
            rw [this, Sk.nxt_skip v1 _ hv1, Sk.nxt_cons_hit hn]
          rw [hnx] at hlk2
          have hmem : n ∈ pre := by rw [huv, hv]; simp
          have hless := HPRE.out n hmem
          obtain ⟨A, c, hnv, hlc, hlen, x0, x1, x2⟩ := HHR.out.at B.out (List.mem_append_left post hmem)
          obtain ⟨a1, a2, ha⟩ := List.append_of_mem (List.mem_append_left post hmem)
          have hrow := (HH.out.node a1 n a2 ha).c1
          rw [hnv] at hrow
          have hrow2 := (Below.cell B.out (World.block_lt_of_cell? _ _ hrow)).trans hrow
          have hneg : Thy.cmpV (keyT n.d).f0 (keyT n.d).f1 (keyT n.d).f2 k.f0 k.f1 k.f2 < 0 := Thy.cmpV_lt.2 hless
          have hcmp := cmp_T (keyT n.d) k
          have hnegb := decide_eq_true hneg
          have L0 : ∀ s : SomeW wr, s.W.cell? ⟨Sk.lst p i u, 2 + i, none⟩ = some (.pointer (some ⟨n.b, 0, none⟩)) := fun s => cell_some hlk2 s
          have L1 : ∀ s : SomeW wr, s.W.cell? ⟨n.b, 1, none⟩ = some (.slice (some A) n.d.f1.length c) := fun s => cell_some hrow2 s
          have X0 : ∀ s : SomeW wr, s.W.cell? A = some (.bool (keyT n.d).f0) := fun s => cell_some x0 s
          have X1 : ∀ s : SomeW wr, s.W.cell? ⟨A.block, A.off + 1, none⟩ = some (.int .i64 (keyT n.d).f1) := fun s => cell_some x1 s
          have X2 : ∀ s : SomeW wr, s.W.cell? ⟨A.block, A.off + 2, none⟩ = some (.string (keyT n.d).f2) := fun s => cell_some x2 s
          have Y0 : ∀ s : SomeW wr, s.W.cell? ⟨w.heap.size, 0, none⟩ = some (.bool k.f0) := fun s => cell_some ((blk_cell K0.out 0).trans rfl) s
          have Y1 : ∀ s : SomeW wr, s.W.cell? ⟨w.heap.size, 1, none⟩ = some (.int .i64 k.f1) := fun s => cell_some ((blk_cell K0.out 1).trans rfl) s
          have Y2 : ∀ s : SomeW wr, s.W.cell? ⟨w.heap.size, 2, none⟩ = some (.string k.f2) := fun s => cell_some ((blk_cell K0.out 2).trans rfl) s
          clear hlk hrow hrow2 x0 x1 x2 hnv hlc
          generalize n.d.f1.length = ln at L1 hlen
          have hlenN : 0 < ln := by omega
          generalize keyT n.d = y at X0 X1 X2 hcmp hneg hnegb
          generalize Thy.cmpV y.f0 y.f1 y.f2 k.f0 k.f1 k.f2 = cv at hcmp hneg hnegb
          go_wp2_with fail
          refine wp_region_quiet_some mixed_T (by kernel_rfl) ?_
          repeat (go_big_quiet_step (first | (go_at_call 45; refine Calls.below_some (hcmp _))))
          refine wpQuiet_nil ?_
          intro w3 hw'
          obtain ⟨p_, hp_⟩ := hw'
          have Q0 : w3.cell? ⟨Sk.lst p i u, 2 + i, none⟩ = some (.pointer (some ⟨n.b, 0, none⟩)) := by rw [hp_]; exact L0 p_
          have B4 : Aside0 (Below w.heap.size w w3) := by rw [hp_]; exact ⟨below_then B.out B.out.size p_.h⟩
          have K0' : Aside0 (w3.heap[w.heap.size]? = some (.cells (cellsT k) 27 (0, 0))) := by rw [hp_]; exact ⟨blk_below K0.out p_.h⟩
          have K1' : Aside0 (w3.heap[w.heap.size + 1]? = some (.cells nil8 67 (0, 0))) := by rw [hp_]; exact ⟨blk_below K1.out p_.h⟩
          have K2' : Aside0 (w3.heap[w.heap.size + 2]? = some (.cells cs 67 (0, 0))) := by rw [hp_]; exact ⟨blk_below K2.out p_.h⟩
          clear hp_ p_ L0 L1 X0 X1 X2 Y0 Y1 Y2 B K0 K1 K2 hlk2
          go_wp2
          go_roundg v2.length
          case measure => rw [hv] at hkx; simp at hkx; omega
          case rel =>
            refine ⟨u ++ (v1 ++ [n]), v2, by rw [huv, hv]; simp, ?_, by omega, B4, K0', K1', K2'⟩
            rw [← List.append_assoc, Sk.lst_snoc_hit _ hn]
    · have : i1 = 0 := by omega
      subst this
      have hcv : cs = #[pathV p pre 0, pathV p pre 1, pathV p pre 2, pathV p pre 3, pathV p pre 4, pathV p pre 5, pathV p pre 6, pathV p pre 7] := by
        apply Array.ext_getElem?
        intro L
        by_cases hL : L < 8
        · rw [HP.out L (Nat.zero_le _) hL]
          match L, hL with
          | 0, _ => rfl
          | 1, _ => rfl
          | 2, _ => rfl
          | 3, _ => rfl
          | 4, _ => rfl
          | 5, _ => rfl
          | 6, _ => rfl
          | 7, _ => rfl
        · rw [Array.getElem?_eq_none (by omega), Array.getElem?_eq_none (by simp; omega)]
      subst hcv
      clear HP hcs
      have HE0 : ∀ L, pathV p pre L = .pointer (some ⟨Sk.lst p L pre, 0, none⟩) := fun _ => rfl
      simp only [HE0] at K2
      obtain ⟨bb, hbb⟩ : ∃ f : Nat → Nat, f = fun L => Sk.lst p L pre := ⟨_, rfl⟩
      have hb0 : Sk.lst p 0 pre = bb 0 := by rw [hbb]
      have hb1 : Sk.lst p 1 pre = bb 1 := by rw [hbb]
      have hb2 : Sk.lst p 2 pre = bb 2 := by rw [hbb]
      have hb3 : Sk.lst p 3 pre = bb 3 := by rw [hbb]
      have hb4 : Sk.lst p 4 pre = bb 4 := by rw [hbb]
      have hb5 : Sk.lst p 5 pre = bb 5 := by rw [hbb]
      have hb6 : Sk.lst p 6 pre = bb 6 := by rw [hbb]
      have hb7 : Sk.lst p 7 pre = bb 7 := by rw [hbb]
      rw [hb0, hb1, hb2, hb3, hb4, hb5, hb6, hb7] at K2
      have q0 := (blk_cell K2.out 0).trans rfl
      have q1 := (blk_cell K2.out 1).trans rfl
      have q2 := (blk_cell K2.out 2).trans rfl
      have q3 := (blk_cell K2.out 3).trans rfl
      have q4 := (blk_cell K2.out 4).trans rfl
      have q5 := (blk_cell K2.out 5).trans rfl
      have q6 := (blk_cell K2.out 6).trans rfl
      have q7 := (blk_cell K2.out 7).trans rfl
      have r0 := (blk_cell K1.out 0).trans rfl
      have r1 := (blk_cell K1.out 1).trans rfl
      have r2 := (blk_cell K1.out 2).trans rfl
      have r3 := (blk_cell K1.out 3).trans rfl
      have r4 := (blk_cell K1.out 4).trans rfl
      have r5 := (blk_cell K1.out 5).trans rfl
      have r6 := (blk_cell K1.out 6).trans rfl
      have r7 := (blk_cell K1.out 7).trans rfl
      have f0 := blk_frozen K1.out 0
      have f1 := blk_frozen K1.out 1
      have f2 := blk_frozen K1.out 2
      have f3 := blk_frozen K1.out 3
      have f4 := blk_frozen K1.out 4
      have f5 := blk_frozen K1.out 5
      have f6 := blk_frozen K1.out 6
      have f7 := blk_frozen K1.out 7
      go_wp2
      have HE : ((((((((wr.setCell ⟨w.heap.size + 1, 0, none⟩ (.pointer (some ⟨bb 0, 0, none⟩))).setCell ⟨w.heap.size + 1, 1, none⟩ (.pointer (some ⟨bb 1, 0, none⟩))).setCell ⟨w.heap.size + 1, 2, none⟩ (.pointer (some ⟨bb 2, 0, none⟩))).setCell ⟨w.heap.size + 1, 3, none⟩ (.pointer (some ⟨bb 3, 0, none⟩))).setCell ⟨w.heap.size + 1, 4, none⟩ (.pointer (some ⟨bb 4, 0, none⟩))).setCell ⟨w.heap.size + 1, 5, none⟩ (.pointer (some ⟨bb 5, 0, none⟩))).setCell ⟨w.heap.size + 1, 6, none⟩ (.pointer (some ⟨bb 6, 0, none⟩))).setCell ⟨w.heap.size + 1, 7, none⟩ (.pointer (some ⟨bb 7, 0, none⟩))).heap[w.heap.size + 1]? = some (.cells #[.pointer (some ⟨bb 0, 0, none⟩), .pointer (some ⟨bb 1, 0, none⟩), .pointer (some ⟨bb 2, 0, none⟩), .pointer (some ⟨bb 3, 0, none⟩), .pointer (some ⟨bb 4, 0, none⟩), .pointer (some ⟨bb 5, 0, none⟩), .pointer (some ⟨bb 6, 0, none⟩), .pointer (some ⟨bb 7, 0, none⟩)] 67 (0, 0)) :=
        blk_set (blk_set (blk_set (blk_set (blk_set (blk_set (blk_set (blk_set K1.out 0 _) 1 _) 2 _) 3 _) 4 _) 5 _) 6 _) 7 _
      refine bodyPost_ret (results_cell_row rfl _ _ (w.heap.size + 1) 67 _ (0, 0) _ rfl HE Try.underlying67 rfl (by kernel_rfl)) rfl ⟨?_, ?_⟩
      · simp only [pathV, hb0, hb1, hb2, hb3, hb4, hb5, hb6, hb7]
      · exact below_set (below_set (below_set (below_set (below_set (below_set (below_set (below_set B.out (Nat.le_succ _)) (Nat.le_succ _)) (Nat.le_succ _)) (Nat.le_succ _)) (Nat.le_succ _)) (Nat.le_succ _)) (Nat.le_succ _)) (Nat.le_succ _)
end Go.Proofs.Ytnfliommpdjlkaa.Pr
end
section
namespace Go.Proofs.Ytnfliommpdjlkaa.Pr
open Go.RowKit Go.Proofs.Ytnfliommpdjlkaa.Brid Go.Proofs.YtnfliommpdjlkaaW.PrintWords Go.Proofs.YtnfliommpdjlkaaW.PrintLast Go.Proofs.YtnfliommpdjlkaaW.PrintMore
set_option linter.unusedVariables false
set_option linter.unusedSimpArgs false
set_option maxHeartbeats 4000000
set_option maxRecDepth 100000
/-- the node of a key, in what isn't ahead of it -/
def nodeOf (k : S27) : List (Sk.Nd S25) → Option Nat
  | [] => none
  | n :: _ => if lessT k (keyT n.d) = true then none else some n.b
theorem find_nil_T (k : S27) (w : World) : Calls Try.prog 40 #[.pointer none, .agg (cellsT k)] w fun e w' => e = .returned (.pointer none) ∧ Below w.heap.size w w' := by
  have hb : Below w.heap.size w (w.alloc (.cells (cellsT k) 27)) := below_alloc (Below.refl _ _) _
  have HB := Aside0.mk hb
  clear hb
  go_enter Try.func40, Try.ntmps40
  go_wp2
  go_ret
  exact ⟨rfl, HB.out⟩
theorem idx8_T (v0 v1 v2 v3 v4 v5 v6 v7 : Value) (w : World) (L : Nat) (hL : L < 8) (r : Value) (hr : #[v0, v1, v2, v3, v4, v5, v6, v7][L]? = some r) : (Instr.index 67 (.agg #[v0, v1, v2, v3, v4, v5, v6, v7]) (.int .i64 (L : Int))).run Try.prog w = .ok r w := by
  match L, hL with
  | 0, _ => obtain rfl : v0 = r := by simpa using hr
            show (Instr.index 67 (.agg #[v0, v1, v2, v3, v4, v5, v6, v7]) (.int .i64 0)).run Try.prog w = .ok v0 w
            kernel_rfl
  | 1, _ => obtain rfl : v1 = r := by simpa using hr
            show (Instr.index 67 (.agg #[v0, v1, v2, v3, v4, v5, v6, v7]) (.int .i64 1)).run Try.prog w = .ok v1 w
            kernel_rfl
  | 2, _ => obtain rfl : v2 = r := by simpa using hr
            show (Instr.index 67 (.agg #[v0, v1, v2, v3, v4, v5, v6, v7]) (.int .i64 2)).run Try.prog w = .ok v2 w
            kernel_rfl
  | 3, _ => obtain rfl : v3 = r := by simpa using hr
            show (Instr.index 67 (.agg #[v0, v1, v2, v3, v4, v5, v6, v7]) (.int .i64 3)).run Try.prog w = .ok v3 w
            kernel_rfl
  | 4, _ => obtain rfl : v4 = r := by simpa using hr
            show (Instr.index 67 (.agg #[v0, v1, v2, v3, v4, v5, v6, v7]) (.int .i64 4)).run Try.prog w = .ok v4 w
            kernel_rfl
  | 5, _ => obtain rfl : v5 = r := by simpa using hr
            show (Instr.index 67 (.agg #[v0, v1, v2, v3, v4, v5, v6, v7]) (.int .i64 5)).run Try.prog w = .ok v5 w
            kernel_rfl
  | 6, _ => obtain rfl : v6 = r := by simpa using hr
            show (Instr.index 67 (.agg #[v0, v1, v2, v3, v4, v5, v6, v7]) (.int .i64 6)).run Try.prog w = .ok v6 w
            kernel_rfl
  | 7, _ => obtain rfl : v7 = r := by simpa using hr
            show (Instr.index 67 (.agg #[v0, v1, v2, v3, v4, v5, v6, v7]) (.int .i64 7)).run Try.prog w = .ok v7 w
            kernel_rfl
theorem find_T (p : Nat) (k : S27) (pre post : List (Sk.Nd S25)) (w : World) (H : Sk.Chain (·.f0) 69 71 w p (pre ++ post)) (HR : RowsOk w (pre ++ post))
    (hpre : ∀ n ∈ pre, lessT (keyT n.d) k = true) (hpost : ∀ n ∈ post, lessT (keyT n.d) k = false) (hh : ∀ n ∈ pre ++ post, 0 < n.h) :
    Calls Try.prog 40 #[.pointer (some ⟨p, 0, none⟩), .agg (cellsT k)] w fun e w' => e = .returned (Sk.ptr (nodeOf k post)) ∧ Below w.heap.size w w' := by
  have b1 : Below w.heap.size w (w.alloc (.cells (cellsT k) 27)) := below_alloc (Below.refl _ _) _
  have K0 : (w.alloc (.cells (cellsT k) 27)).heap[w.heap.size]? = some (.cells (cellsT k) 27 (0, 0)) := heap_alloc_new w _
  have hpa := path_T p k pre post (w.alloc (.cells (cellsT k) 27)) (H.keep (b1.block p H.head.lt) (fun n hn => by
      obtain ⟨a, c, hs⟩ := List.append_of_mem hn
      exact b1.block n.b (H.node a n c hs).lt)) (fun n hn => by
      obtain ⟨A, c, h1, h2, h3, h4⟩ := HR n hn
      exact ⟨A, c, h1, h2, Kd.C_below h3 b1, h4⟩) hpre hpost
  have HB := Aside0.mk b1
  have HK0 := Aside0.mk K0
  have HH := Aside0.mk H
  have HHR := Aside0.mk HR
  have HPOST := Aside0.mk hpost
  have HG := Aside0.mk hh
  clear b1 K0 H HR hpost hpre hh
  go_enter Try.func40, Try.ntmps40
  have hix : ∀ w : World, (Instr.index 67 (.agg #[pathV p pre 0, pathV p pre 1, pathV p pre 2, pathV p pre 3, pathV p pre 4, pathV p pre 5, pathV p pre 6, pathV p pre 7]) (.int .i64 0)).run Try.prog w = .ok (.pointer (some ⟨Sk.lst p 0 pre, 0, none⟩)) w := fun w => idx8_T _ _ _ _ _ _ _ _ w 0 (by omega) _ rfl
  have hlk := HH.out.link (u := pre) (v := post) rfl 0 (by omega)
  have hlk1 := (Below.cell HB.out (World.block_lt_of_cell? _ _ hlk)).trans hlk
  have hlk2 : ∀ w2, Below (w.alloc (.cells (cellsT k) 27)).heap.size (w.alloc (.cells (cellsT k) 27)) w2 → w2.cell? ⟨Sk.lst p 0 pre, 2, none⟩ = some (Sk.ptr (Sk.nxt 0 post)) := fun w2 hb => (Below.cell hb (World.block_lt_of_cell? _ _ hlk1)).trans hlk1
  clear hlk hlk1
  cases post with
  | nil =>
    go_wp2_with (go_at_call 41; refine hpa.mono ?_; rintro e w2 ⟨rfl, hb2⟩; have hl : w2.cell? ⟨Sk.lst p 0 pre, 2, none⟩ = some (.pointer none) := hlk2 w2 hb2; have HB2 := Aside0.mk (below_then HB.out HB.out.size hb2); clear hlk2)
    refine wp_region_quiet_some mixed_T (by kernel_rfl) ?_
    repeat (go_big_quiet_step (fail))
    refine wpQuiet_nil ?_
    intro w3 hw'
    obtain ⟨p_, hp_⟩ := hw'
    have HB3 : Aside0 (Below w.heap.size w w3) := by rw [hp_]; exact ⟨below_then HB2.out HB2.out.size p_.h⟩
    clear hp_ p_ HB2 hl
    go_wp2
    go_ret
    exact ⟨rfl, HB3.out⟩
  | cons n r =>
    have hn0 : 0 < n.h := HG.out n (by simp)
    have hmem : n ∈ pre ++ n :: r := by simp
    obtain ⟨A, c, hnv, hlc, hlen, _⟩ := HHR.out.at (Below.refl _ w) hmem
    have hlenN : 0 < n.d.f1.length := by omega
    have hrow := (HH.out.node pre n r rfl).c1
    rw [hnv] at hrow
    have HX := Aside0.mk hrow
    have hcmp := cmp_T (keyT n.d) k
    have hle : lessT (keyT n.d) k = false := HPOST.out n (by simp)
    have HAT := Aside0.mk (fun w2 (hb : Below w.heap.size w w2) => (HHR.out.at hb hmem))
    clear hrow
    have hres : ∀ w2 : World, Below w.heap.size w w2 → Below (w.alloc (.cells (cellsT k) 27)).heap.size (w.alloc (.cells (cellsT k) 27)) w2 → w2.cell? A = some (.bool (keyT n.d).f0) ∧ w2.cell? ⟨A.block, A.off + 1, none⟩ = some (.int .i64 (keyT n.d).f1) ∧ w2.cell? ⟨A.block, A.off + 2, none⟩ = some (.string (keyT n.d).f2) ∧ w2.cell? ⟨n.b, 1, none⟩ = some (.slice (some A) n.d.f1.length c)
        ∧ w2.cell? ⟨w.heap.size, 0, none⟩ = some (.bool k.f0) ∧ w2.cell? ⟨w.heap.size, 1, none⟩ = some (.int .i64 k.f1) ∧ w2.cell? ⟨w.heap.size, 2, none⟩ = some (.string k.f2) := by
      intro w2 hb hb'
      obtain ⟨A', c', hv', _, _, y0, y1, y2⟩ := HAT.out w2 hb
      rw [hnv] at hv'
      cases hv'
      have K := blk_below HK0.out hb'
      exact ⟨y0, y1, y2, (Below.cell hb (World.block_lt_of_cell? _ _ HX.out)).trans HX.out, (blk_cell K 0).trans rfl, (blk_cell K 1).trans rfl, (blk_cell K 2).trans rfl⟩
    clear hnv hlc HAT
    generalize n.d.f1.length = ln at hlen hlenN hres HX
    cases hg : lessT k (keyT n.d) with
    | true =>
      have hne : ¬ Thy.cmpV (keyT n.d).f0 (keyT n.d).f1 (keyT n.d).f2 k.f0 k.f1 k.f2 = 0 := fun h => by have := Thy.cmpV_gt.2 hg; omega
      have hneb : (Thy.cmpV (keyT n.d).f0 (keyT n.d).f1 (keyT n.d).f2 k.f0 k.f1 k.f2 == 0) = false := beq_eq_false_iff_ne.2 hne
      have hned := decide_eq_false hne
      have HGV : Aside0 (nodeOf k (n :: r) = none) := ⟨by rw [nodeOf, if_pos hg]⟩
      generalize keyT n.d = y at hcmp hres hne hneb hned
      generalize Thy.cmpV y.f0 y.f1 y.f2 k.f0 k.f1 k.f2 = cv at hcmp hne hneb hned
      go_wp2_with (go_at_call 41; refine hpa.mono ?_; rintro e w2 ⟨rfl, hb2⟩; have hl : w2.cell? ⟨Sk.lst p 0 pre, 2, none⟩ = some (.pointer (some ⟨n.b, 0, none⟩)) := (hlk2 w2 hb2).trans (by rw [Sk.nxt_cons_hit hn0]; rfl); have HB2 := Aside0.mk (below_then HB.out HB.out.size hb2); obtain ⟨x0, x1, x2, x3, y0, y1, y2⟩ := hres w2 HB2.out hb2; clear hlk2 hres hb2)
      have L1 : ∀ s : SomeW w2, s.W.cell? ⟨n.b, 1, none⟩ = some (.slice (some A) ln c) := fun s => cell_some x3 s
      have X0 : ∀ s : SomeW w2, s.W.cell? A = some (.bool y.f0) := fun s => cell_some x0 s
      have X1 : ∀ s : SomeW w2, s.W.cell? ⟨A.block, A.off + 1, none⟩ = some (.int .i64 y.f1) := fun s => cell_some x1 s
      have X2 : ∀ s : SomeW w2, s.W.cell? ⟨A.block, A.off + 2, none⟩ = some (.string y.f2) := fun s => cell_some x2 s
      have Y0 : ∀ s : SomeW w2, s.W.cell? ⟨w.heap.size, 0, none⟩ = some (.bool k.f0) := fun s => cell_some y0 s
      have Y1 : ∀ s : SomeW w2, s.W.cell? ⟨w.heap.size, 1, none⟩ = some (.int .i64 k.f1) := fun s => cell_some y1 s
      have Y2 : ∀ s : SomeW w2, s.W.cell? ⟨w.heap.size, 2, none⟩ = some (.string k.f2) := fun s => cell_some y2 s
      clear x0 x1 x2 x3 y0 y1 y2
      refine wp_region_quiet_some mixed_T (by kernel_rfl) ?_
      repeat (go_big_quiet_step (first | (go_at_call 45; refine Calls.below_some (hcmp _))))
      refine wpQuiet_nil ?_
      intro w3 hw'
      obtain ⟨p_, hp_⟩ := hw'
      have HB3 : Aside0 (Below w.heap.size w w3) := by rw [hp_]; exact ⟨below_then HB2.out HB2.out.size p_.h⟩
      clear hp_ p_ HB2 hl L1 X0 X1 X2 Y0 Y1 Y2
      go_wp2
      go_ret
      exact ⟨by rw [HGV.out]; rfl, HB3.out⟩
    | false =>
      have hne : Thy.cmpV (keyT n.d).f0 (keyT n.d).f1 (keyT n.d).f2 k.f0 k.f1 k.f2 = 0 := by
        unfold lessT at hg hle
        unfold Thy.cmpV; rw [hg, hle]; rfl
      have HGV : Aside0 (nodeOf k (n :: r) = some n.b) := ⟨by rw [nodeOf, if_neg (by rw [hg]; exact Bool.false_ne_true)]⟩
      rw [hne] at hcmp
      clear hne
      generalize keyT n.d = y at hcmp hres
      go_wp2_with (go_at_call 41; refine hpa.mono ?_; rintro e w2 ⟨rfl, hb2⟩; have hl : w2.cell? ⟨Sk.lst p 0 pre, 2, none⟩ = some (.pointer (some ⟨n.b, 0, none⟩)) := (hlk2 w2 hb2).trans (by rw [Sk.nxt_cons_hit hn0]; rfl); have HB2 := Aside0.mk (below_then HB.out HB.out.size hb2); obtain ⟨x0, x1, x2, x3, y0, y1, y2⟩ := hres w2 HB2.out hb2; clear hlk2 hres hb2)
      have L1 : ∀ s : SomeW w2, s.W.cell? ⟨n.b, 1, none⟩ = some (.slice (some A) ln c) := fun s => cell_some x3 s
      have X0 : ∀ s : SomeW w2, s.W.cell? A = some (.bool y.f0) := fun s => cell_some x0 s
      have X1 : ∀ s : SomeW w2, s.W.cell? ⟨A.block, A.off + 1, none⟩ = some (.int .i64 y.f1) := fun s => cell_some x1 s
      have X2 : ∀ s : SomeW w2, s.W.cell? ⟨A.block, A.off + 2, none⟩ = some (.string y.f2) := fun s => cell_some x2 s
      have Y0 : ∀ s : SomeW w2, s.W.cell? ⟨w.heap.size, 0, none⟩ = some (.bool k.f0) := fun s => cell_some y0 s
      have Y1 : ∀ s : SomeW w2, s.W.cell? ⟨w.heap.size, 1, none⟩ = some (.int .i64 k.f1) := fun s => cell_some y1 s
      have Y2 : ∀ s : SomeW w2, s.W.cell? ⟨w.heap.size, 2, none⟩ = some (.string k.f2) := fun s => cell_some y2 s
      clear x0 x1 x2 x3 y0 y1 y2
      refine wp_region_quiet_some mixed_T (by kernel_rfl) ?_
      repeat (go_big_quiet_step (first | (go_at_call 45; refine Calls.below_some (hcmp _))))
      refine wpQuiet_nil ?_
      intro w3 hw'
      obtain ⟨p_, hp_⟩ := hw'
      have HB3 : Aside0 (Below w.heap.size w w3) := by rw [hp_]; exact ⟨below_then HB2.out HB2.out.size p_.h⟩
      clear hp_ p_ HB2 hl L1 X0 X1 X2 Y0 Y1 Y2
      go_wp2
      go_ret
      exact ⟨by rw [HGV.out]; rfl, HB3.out⟩
end Go.Proofs.Ytnfliommpdjlkaa.Pr
end
