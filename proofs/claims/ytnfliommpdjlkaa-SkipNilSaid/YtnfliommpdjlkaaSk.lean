/- The skip list's theory: nodes with heights, links level by level; insertion; in memory. -/
import Derived.Test.YtnfliommpdjlkaaWWords
namespace Go.Proofs.Ytnfliommpdjlkaa.Sk
open Go
set_option linter.unusedVariables false
set_option linter.unusedSimpArgs false
/-- a node: its block, its height, its row's value, its deed -/
structure Nd (δ : Type) where
  b : Nat
  h : Nat
  v : Go.Value
  d : δ
variable {δ : Type}
/-- the block of the first node that is higher than L -/
def nxt (L : Nat) (ns : List (Nd δ)) : Option Nat := (ns.find? (fun n => decide (L < n.h))).map (·.b)
/-- the block of the last node that is higher than L; else p -/
def lst (p L : Nat) (ns : List (Nd δ)) : Nat := ns.foldl (fun a n => if L < n.h then n.b else a) p
def ptr (o : Option Nat) : Go.Value := .pointer (o.map fun b => ⟨b, 0, none⟩)
def ptrAt (h L : Nat) (rest : List (Nd δ)) : Go.Value := ptr (if L < h then nxt L rest else none)
theorem nxt_nil (L : Nat) : nxt L ([] : List (Nd δ)) = none := rfl
theorem nxt_cons_hit {L : Nat} {n : Nd δ} {r : List (Nd δ)} (h : L < n.h) : nxt L (n :: r) = some n.b := by simp [nxt, h]
theorem nxt_cons_miss {L : Nat} {n : Nd δ} {r : List (Nd δ)} (h : ¬ L < n.h) : nxt L (n :: r) = nxt L r := by simp [nxt, h]
theorem nxt_skip {L : Nat} : ∀ (u v : List (Nd δ)), (∀ n ∈ u, ¬ L < n.h) → nxt L (u ++ v) = nxt L v
  | [], v, _ => rfl
  | n :: u, v, h => by rw [List.cons_append, nxt_cons_miss (h n List.mem_cons_self)]; exact nxt_skip u v (fun m hm => h m (List.mem_cons_of_mem _ hm))
theorem nxt_hit_app {L : Nat} : ∀ (u v : List (Nd δ)), (∃ n ∈ u, L < n.h) → nxt L (u ++ v) = nxt L u
  | [], v, h => by obtain ⟨n, hn, _⟩ := h; cases hn
  | n :: u, v, h => by
    by_cases hn : L < n.h
    · rw [List.cons_append, nxt_cons_hit hn, nxt_cons_hit hn]
    · rw [List.cons_append, nxt_cons_miss hn, nxt_cons_miss hn]
      refine nxt_hit_app u v ?_
      obtain ⟨m, hm, hh⟩ := h
      rcases List.mem_cons.1 hm with rfl | hm
      · exact absurd hh hn
      · exact ⟨m, hm, hh⟩
/-- another height in the middle, on the same side of L -/
theorem nxt_congr {L : Nat} {n n' : Nd δ} (hb : n'.b = n.b) (hL : (L < n'.h ↔ L < n.h)) : ∀ (u v : List (Nd δ)), nxt L (u ++ n' :: v) = nxt L (u ++ n :: v)
  | [], v => by
    by_cases h : L < n.h
    · rw [List.nil_append, List.nil_append, nxt_cons_hit h, nxt_cons_hit (hL.2 h), hb]
    · rw [List.nil_append, List.nil_append, nxt_cons_miss h, nxt_cons_miss (fun k => h (hL.1 k))]
  | m :: u, v => by
    by_cases h : L < m.h
    · rw [List.cons_append, List.cons_append, nxt_cons_hit h, nxt_cons_hit h]
    · rw [List.cons_append, List.cons_append, nxt_cons_miss h, nxt_cons_miss h]; exact nxt_congr hb hL u v
theorem lst_nil (p L : Nat) : lst p L ([] : List (Nd δ)) = p := rfl
theorem lst_app (p L : Nat) (u v : List (Nd δ)) : lst p L (u ++ v) = lst (lst p L u) L v := by simp [lst, List.foldl_append]
theorem lst_snoc_hit {p L : Nat} {n : Nd δ} (u : List (Nd δ)) (h : L < n.h) : lst p L (u ++ [n]) = n.b := by simp [lst, List.foldl_append, h]
theorem lst_skip {L : Nat} : ∀ (p : Nat) (v : List (Nd δ)), (∀ n ∈ v, ¬ L < n.h) → lst p L v = p
  | p, [], _ => rfl
  | p, n :: v, h => by
    have : lst p L (n :: v) = lst (if L < n.h then n.b else p) L v := rfl
    rw [this, if_neg (h n List.mem_cons_self)]
    exact lst_skip p v (fun m hm => h m (List.mem_cons_of_mem _ hm))
theorem lst_app_skip {p L : Nat} (u v : List (Nd δ)) (h : ∀ n ∈ v, ¬ L < n.h) : lst p L (u ++ v) = lst p L u := by rw [lst_app, lst_skip _ v h]
/-- where the last one higher than L stands -/
theorem last_split (L : Nat) : ∀ ns : List (Nd δ), (∀ n ∈ ns, ¬ L < n.h) ∨ ∃ u n v, ns = u ++ n :: v ∧ L < n.h ∧ ∀ m ∈ v, ¬ L < m.h
  | [] => .inl (fun n hn => by cases hn)
  | n :: r => by
    rcases last_split L r with h | ⟨u, m, v, rfl, hm, hv⟩
    · by_cases hn : L < n.h
      · exact .inr ⟨[], n, r, rfl, hn, h⟩
      · exact .inl (fun m hm => by rcases List.mem_cons.1 hm with rfl | hm; exact hn; exact h m hm)
    · exact .inr ⟨n :: u, m, v, rfl, hm, hv⟩
theorem lst_split {p L : Nat} {u v : List (Nd δ)} {n : Nd δ} (h : L < n.h) (hv : ∀ m ∈ v, ¬ L < m.h) : lst p L (u ++ n :: v) = n.b := by
  have : u ++ n :: v = (u ++ [n]) ++ v := by simp
  rw [this, lst_app_skip _ v hv, lst_snoc_hit u h]
/-- the first one higher than L -/
theorem first_split (L : Nat) : ∀ ns : List (Nd δ), (∀ n ∈ ns, ¬ L < n.h) ∨ ∃ u n v, ns = u ++ n :: v ∧ L < n.h ∧ ∀ m ∈ u, ¬ L < m.h
  | [] => .inl (fun n hn => by cases hn)
  | n :: r => by
    by_cases hn : L < n.h
    · exact .inr ⟨[], n, r, rfl, hn, fun m hm => by cases hm⟩
    · rcases first_split L r with h | ⟨u, m, v, rfl, hm, hv⟩
      · exact .inl (fun m hm => by rcases List.mem_cons.1 hm with rfl | hm; exact hn; exact h m hm)
      · exact .inr ⟨n :: u, m, v, rfl, hm, fun k hk => by rcases List.mem_cons.1 hk with rfl | hk; exact hn; exact hv k hk⟩
theorem lst_mem_or {p L : Nat} (ns : List (Nd δ)) : (lst p L ns = p ∧ ∀ n ∈ ns, ¬ L < n.h) ∨ ∃ u n v, ns = u ++ n :: v ∧ L < n.h ∧ (∀ m ∈ v, ¬ L < m.h) ∧ lst p L ns = n.b := by
  rcases last_split L ns with h | ⟨u, n, v, rfl, hn, hv⟩
  · exact .inl ⟨lst_skip p ns h, h⟩
  · exact .inr ⟨u, n, v, rfl, hn, hv, lst_split hn hv⟩

/-! in memory -/
/-- the block b (of type t, sz cells) is a node's: the deed's truth, its row, the links -/
def At (w : World) (b t sz : Nat) (g v : Go.Value) (h : Nat) (rest : List (Nd δ)) : Prop :=
  ∃ cs : Array Go.Value, w.heap[b]? = some (.cells cs t (0, 0)) ∧ cs.size = sz ∧ 10 ≤ sz ∧ cs[0]? = some g ∧ cs[1]? = some v ∧ ∀ L, L < 8 → cs[2 + L]? = some (ptrAt h L rest)
section
variable {w w1 : World} {b t sz : Nat} {g v : Go.Value} {h : Nat} {rest rest' : List (Nd δ)}
theorem At.keep (H : At w b t sz g v h rest) (e : w1.heap[b]? = w.heap[b]?) : At w1 b t sz g v h rest := by
  obtain ⟨cs, h1, r⟩ := H
  exact ⟨cs, e.trans h1, r⟩
theorem At.congr (H : At w b t sz g v h rest) {h' : Nat} (e : ∀ L, L < 8 → ptrAt h L rest = ptrAt h' L rest') : At w b t sz g v h' rest' := by
  obtain ⟨cs, h1, h2, h3, h4, h5, h6⟩ := H
  exact ⟨cs, h1, h2, h3, h4, h5, fun L hL => (h6 L hL).trans (by rw [e L hL])⟩
theorem At.lt (H : At w b t sz g v h rest) : b < w.heap.size := by
  obtain ⟨cs, h1, _⟩ := H
  exact (Array.getElem?_eq_some_iff.1 h1).1
theorem At.c0 (H : At w b t sz g v h rest) : w.cell? ⟨b, 0, none⟩ = some g := by
  obtain ⟨cs, h1, h2, h3, h4, h5, h6⟩ := H
  simp [World.cell?, h1, h4]
theorem At.c1 (H : At w b t sz g v h rest) : w.cell? ⟨b, 1, none⟩ = some v := by
  obtain ⟨cs, h1, h2, h3, h4, h5, h6⟩ := H
  simp [World.cell?, h1, h5]
theorem At.link (H : At w b t sz g v h rest) (L : Nat) (hL : L < 8) : w.cell? ⟨b, 2 + L, none⟩ = some (ptrAt h L rest) := by
  obtain ⟨cs, h1, h2, h3, h4, h5, h6⟩ := H
  simp [World.cell?, h1, h6 L hL]
theorem At.thaw (H : At w b t sz g v h rest) (j : Nat) : w.frozen? ⟨b, j, none⟩ = false := by
  obtain ⟨cs, h1, _⟩ := H
  simp [World.frozen?, h1]
theorem heap_set {cs : Array Go.Value} (hb : w.heap[b]? = some (.cells cs t (0, 0))) (j : Nat) (x : Go.Value) : (w.setCell ⟨b, j, none⟩ x).heap[b]? = some (.cells (cs.setIfInBounds j x) t (0, 0)) := by
  simp [World.setCell, Array.getElem?_modify, hb]
theorem heap_set_ne (w : World) (b j b' : Nat) (x : Go.Value) (hne : b' ≠ b) : (w.setCell ⟨b, j, none⟩ x).heap[b']? = w.heap[b']? := by
  simp only [World.setCell, Array.getElem?_modify]
  rw [if_neg (fun e => hne e.symm)]
theorem At.setLink (H : At w b t sz g v h rest) (i : Nat) (hi : i < 8) (x : Go.Value) (h' : Nat) (e : ∀ L, L < 8 → L ≠ i → ptrAt h L rest = ptrAt h' L rest') (ei : x = ptrAt h' i rest') : At (w.setCell ⟨b, 2 + i, none⟩ x) b t sz g v h' rest' := by
  obtain ⟨cs, h1, h2, h3, h4, h5, h6⟩ := H
  refine ⟨_, heap_set h1 _ _, by simpa using h2, h3, ?_, ?_, fun L hL => ?_⟩
  · rw [Array.getElem?_setIfInBounds, if_neg (by omega)]; exact h4
  · rw [Array.getElem?_setIfInBounds, if_neg (by omega)]; exact h5
  · rw [Array.getElem?_setIfInBounds]
    by_cases hLi : L = i
    · subst hLi
      rw [if_pos rfl, if_pos (by omega), ei]
    · rw [if_neg (by omega), h6 L hL, e L hL hLi]
theorem At.setDeed (H : At w b t sz g v h rest) (g' v' : Go.Value) : At ((w.setCell ⟨b, 0, none⟩ g').setCell ⟨b, 1, none⟩ v') b t sz g' v' h rest := by
  obtain ⟨cs, h1, h2, h3, h4, h5, h6⟩ := H
  refine ⟨_, heap_set (heap_set h1 0 g') 1 v', by simpa using h2, h3, ?_, ?_, fun L hL => ?_⟩
  · rw [Array.getElem?_setIfInBounds, if_neg (by omega), Array.getElem?_setIfInBounds, if_pos rfl, if_pos (by omega)]
  · rw [Array.getElem?_setIfInBounds, if_pos rfl, if_pos (by simp; omega)]
  · rw [Array.getElem?_setIfInBounds, if_neg (by omega), Array.getElem?_setIfInBounds, if_neg (by omega)]; exact h6 L hL
end
/-- the nodes lie in w, linked, behind the head p; each with its deed's truth (tr) -/
structure Chain (tr : δ → Bool) (tn th : Nat) (w : World) (p : Nat) (ns : List (Nd δ)) : Prop where
  head : At w p th 13 (.bool false) (.slice none 0 0) 8 ns
  node : ∀ u n v, ns = u ++ n :: v → At w n.b tn 10 (.bool (tr n.d)) n.v n.h v
  high : ∀ n ∈ ns, n.h ≤ 8
  ne : ∀ n ∈ ns, n.b ≠ p
  nodup : (ns.map (·.b)).Nodup
section
variable {tr : δ → Bool} {tn th : Nat} {w w1 : World} {p : Nat} {ns : List (Nd δ)}
theorem Chain.keep (H : Chain tr tn th w p ns) (e0 : w1.heap[p]? = w.heap[p]?) (e : ∀ n ∈ ns, w1.heap[n.b]? = w.heap[n.b]?) : Chain tr tn th w1 p ns :=
  ⟨H.head.keep e0, fun u n v hs => (H.node u n v hs).keep (e n (by rw [hs]; simp)), H.high, H.ne, H.nodup⟩
/-- the link of the last one of u that is higher than L: to the first such one of v -/
theorem Chain.link (H : Chain tr tn th w p ns) {u v : List (Nd δ)} (hs : ns = u ++ v) (L : Nat) (hL : L < 8) : w.cell? ⟨lst p L u, 2 + L, none⟩ = some (ptr (nxt L v)) := by
  rcases lst_mem_or (p := p) (L := L) u with ⟨e, hu⟩ | ⟨u1, n, u2, rfl, hn, hu2, e⟩
  · rw [e, H.head.link L hL, ptrAt, if_pos hL, hs, nxt_skip u v hu]
  · rw [e]
    have := (H.node u1 n (u2 ++ v) (by rw [hs]; simp)).link L hL
    rw [this, ptrAt, if_pos hn, nxt_skip u2 v hu2]
theorem Chain.thaw (H : Chain tr tn th w p ns) {u v : List (Nd δ)} (hs : ns = u ++ v) (L j : Nat) : w.frozen? ⟨lst p L u, j, none⟩ = false := by
  rcases lst_mem_or (p := p) (L := L) u with ⟨e, hu⟩ | ⟨u1, n, u2, rfl, hn, hu2, e⟩
  · rw [e]; exact H.head.thaw j
  · rw [e]; exact (H.node u1 n (u2 ++ v) (by rw [hs]; simp)).thaw j
theorem lst_lt (H : Chain tr tn th w p ns) {u v : List (Nd δ)} (hs : ns = u ++ v) (L : Nat) : lst p L u < w.heap.size := by
  rcases lst_mem_or (p := p) (L := L) u with ⟨e, hu⟩ | ⟨u1, n, u2, rfl, hn, hu2, e⟩
  · rw [e]; exact H.head.lt
  · rw [e]; exact (H.node u1 n (u2 ++ v) (by rw [hs]; simp)).lt
theorem nodup_mid {u v : List (Nd δ)} {n : Nd δ} (h : ((u ++ n :: v).map (·.b)).Nodup) : (∀ m ∈ u, m.b ≠ n.b) ∧ (∀ m ∈ v, m.b ≠ n.b) := by
  rw [List.map_append, List.map_cons] at h
  have h1 := List.nodup_append.1 h
  have h2 := List.nodup_cons.1 h1.2.1
  refine ⟨fun m hm e => ?_, fun m hm e => ?_⟩
  · exact h1.2.2 _ (List.mem_map_of_mem hm) _ (List.mem_cons_self) e
  · exact h2.1 (by rw [← e]; exact List.mem_map_of_mem hm)
/-- a new node, linked nowhere yet -/
theorem Chain.fresh {u v : List (Nd δ)} (H : Chain tr tn th w p (u ++ v)) {nb : Nat} {rv : Go.Value} {d : δ} (hb : w1.heap[nb]? = some (.cells #[.bool (tr d), rv, .pointer none, .pointer none, .pointer none, .pointer none, .pointer none, .pointer none, .pointer none, .pointer none] tn (0, 0)))
    (e0 : w1.heap[p]? = w.heap[p]?) (e : ∀ n ∈ u ++ v, w1.heap[n.b]? = w.heap[n.b]?) (hp : nb ≠ p) (hn : ∀ n ∈ u ++ v, n.b ≠ nb) : Chain tr tn th w1 p (u ++ ⟨nb, 0, rv, d⟩ :: v) := by
  have H1 := H.keep e0 e
  have nz : ∀ (a c : List (Nd δ)) (L : Nat), nxt L (a ++ ⟨nb, 0, rv, d⟩ :: c) = nxt L (a ++ c) := by
    intro a c L
    induction a with
    | nil => exact nxt_cons_miss (Nat.not_lt_zero _)
    | cons m a ih =>
      by_cases h : L < m.h
      · rw [List.cons_append, List.cons_append, nxt_cons_hit h, nxt_cons_hit h]
      · rw [List.cons_append, List.cons_append, nxt_cons_miss h, nxt_cons_miss h, ih]
  refine ⟨H1.head.congr (fun L _ => by simp only [ptrAt]; rw [nz]), fun a n c hs => ?_, fun n hm => ?_, fun n hm => ?_, ?_⟩
  · rw [List.append_eq_append_iff] at hs
    rcases hs with ⟨a', ha, hc⟩ | ⟨c', hc1, hc2⟩
    · cases a' with
      | nil =>
        simp only [List.nil_append, List.cons.injEq] at hc
        obtain ⟨rfl, rfl⟩ := hc
        refine ⟨_, hb, rfl, by omega, rfl, rfl, fun L hL => ?_⟩
        rw [ptrAt, if_neg (Nat.not_lt_zero _)]
        have : ∀ L, L < 8 → (#[Go.Value.bool (tr d), rv, .pointer none, .pointer none, .pointer none, .pointer none, .pointer none, .pointer none, .pointer none, .pointer none] : Array Go.Value)[2 + L]? = some (.pointer none) := by
          intro L hL
          match L, hL with
          | 0, _ => rfl
          | 1, _ => rfl
          | 2, _ => rfl
          | 3, _ => rfl
          | 4, _ => rfl
          | 5, _ => rfl
          | 6, _ => rfl
          | 7, _ => rfl
        exact this L hL
      | cons m a' =>
        simp only [List.cons_append, List.cons.injEq] at hc
        obtain ⟨rfl, rfl⟩ := hc
        exact H1.node (u ++ a') n c (by simp)
    · cases c' with
      | nil =>
        simp only [List.nil_append, List.cons.injEq] at hc2
        obtain ⟨rfl, rfl⟩ := hc2
        refine ⟨_, hb, rfl, by omega, rfl, rfl, fun L hL => ?_⟩
        rw [ptrAt, if_neg (Nat.not_lt_zero _)]
        match L, hL with
        | 0, _ => rfl
        | 1, _ => rfl
        | 2, _ => rfl
        | 3, _ => rfl
        | 4, _ => rfl
        | 5, _ => rfl
        | 6, _ => rfl
        | 7, _ => rfl
      | cons m c' =>
        simp only [List.cons_append, List.cons.injEq] at hc2
        obtain ⟨rfl, rfl⟩ := hc2
        exact (H1.node a n (c' ++ v) (by rw [hc1]; simp)).congr (fun L _ => by simp only [ptrAt]; rw [nz])
  · rcases List.mem_append.1 hm with h | h
    · exact H.high n (List.mem_append_left _ h)
    · rcases List.mem_cons.1 h with rfl | h
      · exact Nat.zero_le _
      · exact H.high n (List.mem_append_right _ h)
  · rcases List.mem_append.1 hm with h | h
    · exact H.ne n (List.mem_append_left _ h)
    · rcases List.mem_cons.1 h with rfl | h
      · exact hp
      · exact H.ne n (List.mem_append_right _ h)
  · have hd := H.nodup
    rw [List.map_append] at hd ⊢
    rw [List.map_cons]
    have h1 := List.nodup_append.1 hd
    refine List.nodup_append.2 ⟨h1.1, List.nodup_cons.2 ⟨fun hm => ?_, h1.2.1⟩, fun x hx y hy e => ?_⟩
    · obtain ⟨m, hm, e⟩ := List.mem_map.1 hm
      exact hn m (List.mem_append_right _ hm) e
    · subst e
      rcases List.mem_cons.1 hy with e | hy
      · obtain ⟨m, hm, e2⟩ := List.mem_map.1 hx
        exact hn m (List.mem_append_left _ hm) (e2.trans e)
      · exact h1.2.2 x hx x hy rfl
/-- linked in at one level more -/
theorem Chain.grow {u v : List (Nd δ)} {nb i : Nat} {rv : Go.Value} {d : δ} (H : Chain tr tn th w p (u ++ ⟨nb, i, rv, d⟩ :: v)) (hi : i < 8) :
    Chain tr tn th ((w.setCell ⟨nb, 2 + i, none⟩ (ptr (nxt i v))).setCell ⟨lst p i u, 2 + i, none⟩ (ptr (some nb))) p (u ++ ⟨nb, i + 1, rv, d⟩ :: v) := by
  have hnd := nodup_mid H.nodup
  have hnp : nb ≠ p := H.ne ⟨nb, i, rv, d⟩ (by simp)
  have hne : lst p i u ≠ nb := by
    rcases lst_mem_or (p := p) (L := i) u with ⟨e, _⟩ | ⟨u1, n, u2, hu, hn, _, e⟩
    · rw [e]; exact fun h => hnp h.symm
    · rw [e]; exact hnd.1 n (by rw [hu]; simp)
  have cong : ∀ (a : List (Nd δ)) (L : Nat), L ≠ i → nxt L (a ++ ⟨nb, i + 1, rv, d⟩ :: v) = nxt L (a ++ ⟨nb, i, rv, d⟩ :: v) := fun a L hL =>
    nxt_congr (n := ⟨nb, i, rv, d⟩) (n' := ⟨nb, i + 1, rv, d⟩) rfl (by show L < i + 1 ↔ L < i; omega) a v
  refine ⟨?_, fun a n c hs => ?_, fun n hm => ?_, fun n hm => ?_, by have := H.nodup; simpa using this⟩
  · -- the head
    rcases lst_mem_or (p := p) (L := i) u with ⟨e, hu⟩ | ⟨u1, n, u2, hu, hn, _, e⟩
    · rw [e]
      refine (H.head.keep (heap_set_ne w _ _ _ _ (fun h => hnp h.symm))).setLink i hi _ 8 (fun L hL hLi => ?_) ?_
      · simp only [ptrAt, if_pos hL, cong u L hLi]
      · simp only [ptrAt, if_pos hi]
        rw [nxt_skip u _ hu, nxt_cons_hit (Nat.lt_succ_self i)]
    · rw [e]
      have hnb : n.b ≠ p := H.ne n (by rw [hu]; simp)
      refine ((H.head.keep (heap_set_ne w _ _ _ _ (fun h => hnp h.symm))).keep (heap_set_ne _ _ _ _ _ (fun h => hnb h.symm))).congr (fun L hL => ?_)
      by_cases hLi : L = i
      · subst hLi
        simp only [ptrAt, if_pos hL]
        rw [nxt_hit_app u _ ⟨n, by rw [hu]; simp, hn⟩, nxt_hit_app u _ ⟨n, by rw [hu]; simp, hn⟩]
      · simp only [ptrAt, if_pos hL, cong u L hLi]
  · have hcases : (∃ r, u = a ++ n :: r ∧ c = r ++ ⟨nb, i + 1, rv, d⟩ :: v) ∨ (a = u ∧ n = ⟨nb, i + 1, rv, d⟩ ∧ c = v) ∨ (∃ r, a = u ++ ⟨nb, i + 1, rv, d⟩ :: r ∧ v = r ++ n :: c) := by
      rw [List.append_eq_append_iff] at hs
      rcases hs with ⟨a', ha, hc⟩ | ⟨c', hc1, hc2⟩
      · cases a' with
        | nil =>
          simp only [List.nil_append, List.cons.injEq] at hc
          obtain ⟨rfl, rfl⟩ := hc
          exact .inr (.inl ⟨by simpa using ha, rfl, rfl⟩)
        | cons m a' =>
          simp only [List.cons_append, List.cons.injEq] at hc
          obtain ⟨rfl, rfl⟩ := hc
          exact .inr (.inr ⟨a', ha, rfl⟩)
      · cases c' with
        | nil =>
          simp only [List.nil_append, List.cons.injEq] at hc2
          obtain ⟨rfl, rfl⟩ := hc2
          exact .inr (.inl ⟨by simpa using hc1.symm, rfl, rfl⟩)
        | cons m c' =>
          simp only [List.cons_append, List.cons.injEq] at hc2
          obtain ⟨rfl, rfl⟩ := hc2
          exact .inl ⟨c', hc1, rfl⟩
    rcases hcases with ⟨r, hu, rfl⟩ | ⟨rfl, rfl, rfl⟩ | ⟨r, rfl, hv⟩
    · have H0 := H.node a n (r ++ ⟨nb, i, rv, d⟩ :: v) (by rw [hu]; simp)
      have hnn : n.b ≠ nb := hnd.1 n (by rw [hu]; simp)
      have H1 := H0.keep (heap_set_ne w nb (2 + i) n.b (ptr (nxt i v)) hnn)
      by_cases hA : i < n.h ∧ ∀ m ∈ r, ¬ i < m.h
      · have e : lst p i u = n.b := by rw [hu]; exact lst_split hA.1 hA.2
        rw [e]
        refine H1.setLink i hi _ n.h (fun L hL hLi => ?_) ?_
        · simp only [ptrAt, cong r L hLi]
        · simp only [ptrAt, if_pos hA.1]
          rw [nxt_skip r _ hA.2, nxt_cons_hit (Nat.lt_succ_self i)]
      · have hne2 : n.b ≠ lst p i u := by
          rcases lst_mem_or (p := p) (L := i) u with ⟨e, _⟩ | ⟨u1, m, u2, hu', hm, hu2, e⟩
          · rw [e]; exact H.ne n (by rw [hu]; simp)
          · rw [e]
            intro hb
            have hdu : (u.map (·.b)).Nodup := by
              have := H.nodup
              rw [List.map_append] at this
              exact (List.nodup_append.1 this).1
            -- the same block: the same place
            rw [hu, List.append_eq_append_iff] at hu'
            rw [hu] at hdu
            rcases hu' with ⟨a', ha, hc⟩ | ⟨c', hc1, hc2⟩
            · cases a' with
              | nil =>
                simp only [List.nil_append, List.cons.injEq] at hc
                obtain ⟨rfl, rfl⟩ := hc
                exact hA ⟨hm, hu2⟩
              | cons k a' =>
                simp only [List.cons_append, List.cons.injEq] at hc
                obtain ⟨rfl, hr⟩ := hc
                exact (nodup_mid hdu).2 m (by rw [hr]; simp) hb.symm
            · cases c' with
              | nil =>
                simp only [List.nil_append, List.cons.injEq] at hc2
                obtain ⟨rfl, rfl⟩ := hc2
                exact hA ⟨hm, hu2⟩
              | cons k c' =>
                simp only [List.cons_append, List.cons.injEq] at hc2
                obtain ⟨rfl, hr⟩ := hc2
                exact (nodup_mid hdu).1 m (by rw [hc1]; simp) hb.symm
        refine (H1.keep (heap_set_ne _ _ _ _ _ hne2)).congr (fun L hL => ?_)
        by_cases hLi : L = i
        · subst hLi
          simp only [ptrAt]
          by_cases hn : L < n.h
          · have hx : ∃ m ∈ r, L < m.h := by
              by_cases hx : ∃ m ∈ r, L < m.h
              · exact hx
              · exact absurd ⟨hn, fun m hm hh => hx ⟨m, hm, hh⟩⟩ hA
            rw [if_pos hn, if_pos hn, nxt_hit_app r _ hx, nxt_hit_app r _ hx]
          · rw [if_neg hn, if_neg hn]
        · simp only [ptrAt, cong r L hLi]
    · have H0 := H.node a ⟨nb, i, rv, d⟩ c rfl
      have H1 : At (w.setCell ⟨nb, 2 + i, none⟩ (ptr (nxt i c))) nb tn 10 (.bool (tr d)) rv (i + 1) c := by
        refine H0.setLink i hi _ (i + 1) (fun L hL hLi => ?_) ?_
        · simp only [ptrAt]
          by_cases h : L < i
          · rw [if_pos h, if_pos (by omega)]
          · rw [if_neg h, if_neg (by omega)]
        · simp only [ptrAt, if_pos (Nat.lt_succ_self i)]
      exact H1.keep (heap_set_ne _ _ _ _ _ (fun h => hne h.symm))
    · have H0 := H.node (u ++ ⟨nb, i, rv, d⟩ :: r) n c (by rw [hv]; simp)
      have hnn : n.b ≠ nb := hnd.2 n (by rw [hv]; simp)
      have hne2 : n.b ≠ lst p i u := by
        rcases lst_mem_or (p := p) (L := i) u with ⟨e, _⟩ | ⟨u1, m, u2, hu', hm, hu2, e⟩
        · rw [e]; exact H.ne n (by rw [hv]; simp)
        · rw [e]
          have hd := H.nodup
          rw [List.map_append] at hd
          intro hb
          exact (List.nodup_append.1 hd).2.2 m.b (List.mem_map_of_mem (by rw [hu']; simp)) n.b (List.mem_map_of_mem (by rw [hv]; simp)) hb.symm
      exact (H0.keep (heap_set_ne _ _ _ _ _ hnn)).keep (heap_set_ne _ _ _ _ _ hne2)
  · rcases List.mem_append.1 hm with h | h
    · exact H.high n (List.mem_append_left _ h)
    · rcases List.mem_cons.1 h with rfl | h
      · show i + 1 ≤ 8; omega
      · exact H.high n (List.mem_append_right _ (List.mem_cons_of_mem _ h))
  · rcases List.mem_append.1 hm with h | h
    · exact H.ne n (List.mem_append_left _ h)
    · rcases List.mem_cons.1 h with rfl | h
      · exact hnp
      · exact H.ne n (List.mem_append_right _ (List.mem_cons_of_mem _ h))
/-- another deed at a node -/
theorem Chain.put {u v : List (Nd δ)} {n : Nd δ} (H : Chain tr tn th w p (u ++ n :: v)) (rv : Go.Value) (d : δ) :
    Chain tr tn th ((w.setCell ⟨n.b, 0, none⟩ (.bool (tr d))).setCell ⟨n.b, 1, none⟩ rv) p (u ++ ⟨n.b, n.h, rv, d⟩ :: v) := by
  have hnd := nodup_mid H.nodup
  have hnp : n.b ≠ p := H.ne n (by simp)
  have cong : ∀ (a : List (Nd δ)) (L : Nat), nxt L (a ++ ⟨n.b, n.h, rv, d⟩ :: v) = nxt L (a ++ n :: v) := fun a L => nxt_congr (n := n) (n' := ⟨n.b, n.h, rv, d⟩) rfl Iff.rfl a v
  have far : ∀ b', b' ≠ n.b → ((w.setCell ⟨n.b, 0, none⟩ (.bool (tr d))).setCell ⟨n.b, 1, none⟩ rv).heap[b']? = w.heap[b']? := fun b' hb => (heap_set_ne _ _ _ _ _ hb).trans (heap_set_ne _ _ _ _ _ hb)
  refine ⟨(H.head.keep (far p (fun h => hnp h.symm))).congr (fun L hL => by simp only [ptrAt, cong]), fun a m c hs => ?_, fun m hm => ?_, fun m hm => ?_, by have := H.nodup; simpa using this⟩
  · rw [List.append_eq_append_iff] at hs
    rcases hs with ⟨a', ha, hc⟩ | ⟨c', hc1, hc2⟩
    · cases a' with
      | nil =>
        simp only [List.nil_append, List.cons.injEq] at hc
        obtain ⟨rfl, rfl⟩ := hc
        exact (H.node u n v rfl).setDeed _ _
      | cons k a' =>
        simp only [List.cons_append, List.cons.injEq] at hc
        obtain ⟨rfl, rfl⟩ := hc
        exact (H.node (u ++ n :: a') m c (by simp)).keep (far _ (hnd.2 m (by simp)))
    · cases c' with
      | nil =>
        simp only [List.nil_append, List.cons.injEq] at hc2
        obtain ⟨rfl, rfl⟩ := hc2
        exact (H.node u n _ rfl).setDeed _ _
      | cons k c' =>
        simp only [List.cons_append, List.cons.injEq] at hc2
        obtain ⟨rfl, rfl⟩ := hc2
        exact ((H.node a m (c' ++ n :: v) (by rw [hc1]; simp)).keep (far _ (hnd.1 m (by rw [hc1]; simp)))).congr (fun L hL => by simp only [ptrAt, cong])
  · rcases List.mem_append.1 hm with h | h
    · exact H.high m (List.mem_append_left _ h)
    · rcases List.mem_cons.1 h with rfl | h
      · exact H.high n (by simp)
      · exact H.high m (List.mem_append_right _ (List.mem_cons_of_mem _ h))
  · rcases List.mem_append.1 hm with h | h
    · exact H.ne m (List.mem_append_left _ h)
    · rcases List.mem_cons.1 h with rfl | h
      · exact hnp
      · exact H.ne m (List.mem_append_right _ (List.mem_cons_of_mem _ h))
/-- a cell of the head's, behind the links -/
theorem At.setRest {b t sz : Nat} {g v : Go.Value} {h : Nat} {rest : List (Nd δ)} (H : At w b t sz g v h rest) (j : Nat) (hj : 10 ≤ j) (x : Go.Value) : At (w.setCell ⟨b, j, none⟩ x) b t sz g v h rest := by
  obtain ⟨cs, h1, h2, h3, h4, h5, h6⟩ := H
  refine ⟨_, heap_set h1 _ _, by simpa using h2, h3, ?_, ?_, fun L hL => ?_⟩
  · rw [Array.getElem?_setIfInBounds, if_neg (by omega)]; exact h4
  · rw [Array.getElem?_setIfInBounds, if_neg (by omega)]; exact h5
  · rw [Array.getElem?_setIfInBounds, if_neg (by omega)]; exact h6 L hL
theorem Chain.setRest (H : Chain tr tn th w p ns) (j : Nat) (hj : 10 ≤ j) (x : Go.Value) : Chain tr tn th (w.setCell ⟨p, j, none⟩ x) p ns :=
  ⟨H.head.setRest j hj x, fun u n v hs => (H.node u n v hs).keep (heap_set_ne _ _ _ _ _ (H.ne n (by rw [hs]; simp))), H.high, H.ne, H.nodup⟩
end
end Go.Proofs.Ytnfliommpdjlkaa.Sk
