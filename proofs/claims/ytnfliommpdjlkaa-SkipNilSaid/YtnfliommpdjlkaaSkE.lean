/- skip: what a store does to the list (numbers of seat b) -/
import Derived.Test.YtnfliommpdjlkaaSkC
namespace Go.Proofs.Ytnfliommpdjlkaa.Pr
open Go.RowKit Go.Proofs.Ytnfliommpdjlkaa.Brid Go.Proofs.YtnfliommpdjlkaaW.PrintWords Go.Proofs.YtnfliommpdjlkaaW.PrintLast Go.Proofs.YtnfliommpdjlkaaW.PrintMore
set_option linter.unusedVariables false
set_option linter.unusedSimpArgs false
set_option maxHeartbeats 4000000
set_option maxRecDepth 100000
theorem w64 (x : Int) : IntKind.i64.wrap x = wrap64 x := by rw [IntKind.wrap_i64]; unfold wrap64; omega
theorem R_setT {w : World} {base : Nat} {O : Nat → Prop} {v : Value} {l : List S27} (h : Kd.R k27 27 w base O v l) {g t : Nat} (hg : ∃ cs, w.heap[g]? = some (.cells cs t (0, 0))) (ht : t ≠ 27) (j : Nat) (x : Value) : Kd.R k27 27 (w.setCell ⟨g, j, none⟩ x) base O v l := by
  obtain ⟨cs, hb⟩ := hg
  exact Kd.R_set h hb (k27_E t ht) j x
section
variable {w w1 : World} {O O' : Nat → Prop} {p : Nat} {c b : Int} {u v : List (Sk.Nd S25)}
theorem lstBlk {ns : List (Sk.Nd S25)} (H : Sk.Chain (·.f0) 69 71 w p ns) (hs : ns = u ++ v) (L : Nat) : ∃ t cs, w.heap[Sk.lst p L u]? = some (.cells cs t (0, 0)) ∧ t ≠ 27 := by
  rcases Sk.lst_mem_or (p := p) (L := L) u with ⟨e, _⟩ | ⟨u1, n, u2, hu, _, _, e⟩
  · rw [e]
    obtain ⟨cs, h1, _⟩ := H.head
    exact ⟨71, cs, h1, by decide⟩
  · rw [e]
    obtain ⟨cs, h1, _⟩ := H.node u1 n (u2 ++ v) (by rw [hs, hu]; simp)
    exact ⟨69, cs, h1, by decide⟩
theorem chain_cell {ns : List (Sk.Nd S25)} (H : Sk.Chain (·.f0) 69 71 w p ns) (hs : ns = u ++ v) (L i j : Nat) (hi : 10 ≤ i) (hj : j < 10) (x : Value) : (w.setCell ⟨Sk.lst p L u, j, none⟩ x).cell? ⟨p, i, none⟩ = w.cell? ⟨p, i, none⟩ := by
  rcases Sk.lst_mem_or (p := p) (L := L) u with ⟨e, _⟩ | ⟨u1, n, u2, hu, _, _, e⟩
  · rw [e]; exact cell_set_ne w p i j x (by omega)
  · rw [e]
    unfold World.cell?
    rw [Sk.heap_set_ne _ _ _ _ _ (fun h => H.ne n (by rw [hs, hu]; simp) h.symm)]
theorem cell_far (w : World) (q p j i : Nat) (x : Value) (h : p ≠ q) : (w.setCell ⟨q, j, none⟩ x).cell? ⟨p, i, none⟩ = w.cell? ⟨p, i, none⟩ := by
  unfold World.cell?
  rw [Sk.heap_set_ne _ _ _ _ _ h]
/-- a new node, linked nowhere yet -/
theorem SkM.fresh (H : SkM w O p (u ++ v) c b) {nb : Nat} {rv : Value} {d : S25} (hb : w1.heap[nb]? = some (.cells #[.bool d.f0, rv, .pointer none, .pointer none, .pointer none, .pointer none, .pointer none, .pointer none, .pointer none, .pointer none] 69 (0, 0)))
    (hB : Below w.heap.size w w1) (hn : w.heap.size ≤ nb) (hO : ∀ k, O k → O' k) (hOn : O' nb) (hr : Kd.R k27 27 w1 0 O' rv d.f1) (hl : 0 < d.f1.length) : SkM w1 O' p (u ++ ⟨nb, 0, rv, d⟩ :: v) c b := by
  have H1 := (H.below hB).mono hO
  have hlt : ∀ n ∈ u ++ v, n.b < w.heap.size := fun n hn => by
    obtain ⟨a, c, hs⟩ := List.append_of_mem hn
    exact (H.chain.node a n c hs).lt
  refine ⟨H.chain.fresh (d := d) hb (hB.block _ H.chain.head.lt) (fun n hn => hB.block _ (hlt n hn)) (by have := H.chain.head.lt; omega) (fun n hm => by have := hlt n hm; omega), fun n hm => ?_, fun n hm => ?_, H1.seed, H1.cnt, H1.byt, H1.op, fun n hm => ?_⟩
  · rcases List.mem_append.1 hm with h | h
    · exact H1.rows n (List.mem_append_left _ h)
    · rcases List.mem_cons.1 h with rfl | h
      · exact hr
      · exact H1.rows n (List.mem_append_right _ h)
  · rcases List.mem_append.1 hm with h | h
    · exact H1.full n (List.mem_append_left _ h)
    · rcases List.mem_cons.1 h with rfl | h
      · exact hl
      · exact H1.full n (List.mem_append_right _ h)
  · rcases List.mem_append.1 hm with h | h
    · exact H1.on n (List.mem_append_left _ h)
    · rcases List.mem_cons.1 h with rfl | h
      · exact hOn
      · exact H1.on n (List.mem_append_right _ h)
theorem mem_swap {n n' m : Sk.Nd S25} {P : Sk.Nd S25 → Prop} (h : ∀ m ∈ u ++ n :: v, P m) (h' : P n') : ∀ m ∈ u ++ n' :: v, P m := by
  intro m hm
  rcases List.mem_append.1 hm with k | k
  · exact h m (List.mem_append_left _ k)
  · rcases List.mem_cons.1 k with rfl | k
    · exact h'
    · exact h m (List.mem_append_right _ (List.mem_cons_of_mem _ k))
theorem SkM.grow {nb i : Nat} {rv : Value} {d : S25} (H : SkM w O p (u ++ ⟨nb, i, rv, d⟩ :: v) c b) (hi : i < 8) :
    SkM ((w.setCell ⟨nb, 2 + i, none⟩ (Sk.ptr (Sk.nxt i v))).setCell ⟨Sk.lst p i u, 2 + i, none⟩ (Sk.ptr (some nb))) O p (u ++ ⟨nb, i + 1, rv, d⟩ :: v) c b := by
  have hnb : ∃ cs, w.heap[nb]? = some (.cells cs 69 (0, 0)) := by
    obtain ⟨cs, h1, _⟩ := H.chain.node u ⟨nb, i, rv, d⟩ v rfl
    exact ⟨cs, h1⟩
  have hnp : nb ≠ p := H.chain.ne ⟨nb, i, rv, d⟩ (by simp)
  obtain ⟨t, cs, hl, ht⟩ := lstBlk (u := u) H.chain rfl i
  have hne : Sk.lst p i u ≠ nb := by
    rcases Sk.lst_mem_or (p := p) (L := i) u with ⟨e, _⟩ | ⟨u1, n, u2, hu, hn, _, e⟩
    · rw [e]; exact fun h => hnp h.symm
    · rw [e]; exact (Sk.nodup_mid H.chain.nodup).1 n (by rw [hu]; simp)
  have rows : ∀ n ∈ u ++ ⟨nb, i, rv, d⟩ :: v, Kd.R k27 27 ((w.setCell ⟨nb, 2 + i, none⟩ (Sk.ptr (Sk.nxt i v))).setCell ⟨Sk.lst p i u, 2 + i, none⟩ (Sk.ptr (some nb))) 0 O n.v n.d.f1 := fun n hn =>
    R_setT (R_setT (H.rows n hn) hnb (by omega) _ _) ⟨cs, (Sk.heap_set_ne _ _ _ _ _ hne).trans hl⟩ ht _ _
  have cell : ∀ j, 10 ≤ j → ((w.setCell ⟨nb, 2 + i, none⟩ (Sk.ptr (Sk.nxt i v))).setCell ⟨Sk.lst p i u, 2 + i, none⟩ (Sk.ptr (some nb))).cell? ⟨p, j, none⟩ = w.cell? ⟨p, j, none⟩ := by
    intro j hj
    have h2 : (w.setCell ⟨nb, 2 + i, none⟩ (Sk.ptr (Sk.nxt i v))).cell? ⟨p, j, none⟩ = w.cell? ⟨p, j, none⟩ := cell_far _ _ _ _ _ _ (fun h => hnp h.symm)
    rcases Sk.lst_mem_or (p := p) (L := i) u with ⟨e, _⟩ | ⟨u1, n, u2, hu, hn, _, e⟩
    · rw [e, cell_set_ne _ _ _ _ _ (by omega)]; exact h2
    · rw [e, cell_far _ _ _ _ _ _ (fun h => H.chain.ne n (by rw [hu]; simp) h.symm)]; exact h2
  obtain ⟨s, hs⟩ := H.seed
  exact ⟨H.chain.grow hi, mem_swap (P := fun n => Kd.R k27 27 _ 0 O n.v n.d.f1) (m := ⟨nb, i, rv, d⟩) rows (rows ⟨nb, i, rv, d⟩ (by simp)), mem_swap (P := fun n => 0 < n.d.f1.length) (m := ⟨nb, i, rv, d⟩) H.full (H.full ⟨nb, i, rv, d⟩ (by simp)),
    ⟨s, (cell 10 (by omega)).trans hs⟩, (cell 11 (by omega)).trans H.cnt, (cell 12 (by omega)).trans H.byt, H.op, mem_swap (P := fun n => O n.b) (m := ⟨nb, i, rv, d⟩) H.on (H.on ⟨nb, i, rv, d⟩ (by simp))⟩
/-- another deed at a node -/
theorem SkM.put {n : Sk.Nd S25} {rv : Value} {d : S25} (H : SkM w O p (u ++ n :: v) c b) (hO : ∀ k, O k → O' k) (hr : Kd.R k27 27 w 0 O' rv d.f1) (hl : 0 < d.f1.length) :
    SkM ((w.setCell ⟨n.b, 0, none⟩ (.bool d.f0)).setCell ⟨n.b, 1, none⟩ rv) O' p (u ++ ⟨n.b, n.h, rv, d⟩ :: v) c b := by
  have hnb : ∃ cs, w.heap[n.b]? = some (.cells cs 69 (0, 0)) := by
    obtain ⟨cs, h1, _⟩ := H.chain.node u n v rfl
    exact ⟨cs, h1⟩
  have hnb2 : ∃ cs, (w.setCell ⟨n.b, 0, none⟩ (.bool d.f0)).heap[n.b]? = some (.cells cs 69 (0, 0)) := by
    obtain ⟨cs, h1⟩ := hnb
    exact ⟨_, Sk.heap_set h1 _ _⟩
  have hnp : n.b ≠ p := H.chain.ne n (by simp)
  have H1 := H.mono hO
  have rows : ∀ (rv' : Value) (l : List S27), Kd.R k27 27 w 0 O' rv' l → Kd.R k27 27 ((w.setCell ⟨n.b, 0, none⟩ (.bool d.f0)).setCell ⟨n.b, 1, none⟩ rv) 0 O' rv' l := fun rv' l h =>
    R_setT (R_setT h hnb (by omega) _ _) hnb2 (by omega) _ _
  have cell : ∀ j, ((w.setCell ⟨n.b, 0, none⟩ (.bool d.f0)).setCell ⟨n.b, 1, none⟩ rv).cell? ⟨p, j, none⟩ = w.cell? ⟨p, j, none⟩ := fun j =>
    (cell_far _ _ _ _ _ _ (fun h => hnp h.symm)).trans (cell_far _ _ _ _ _ _ (fun h => hnp h.symm))
  obtain ⟨s, hs⟩ := H.seed
  exact ⟨H.chain.put rv d, mem_swap (P := fun n => Kd.R k27 27 _ 0 O' n.v n.d.f1) (m := n) (fun m hm => rows _ _ (H1.rows m hm)) (rows _ _ hr), mem_swap (P := fun n => 0 < n.d.f1.length) (m := n) H.full hl,
    ⟨s, (cell 10).trans hs⟩, (cell 11).trans H.cnt, (cell 12).trans H.byt, H1.op, mem_swap (P := fun n => O' n.b) (m := n) H1.on (H1.on n (by simp))⟩
end
/-- eight pointers in a new block -/
theorem set8 (w : World) (f : Nat → Nat) : (((((((((w.alloc (.cells nil8 67)).setCell ⟨w.heap.size, 0, none⟩ (.pointer (some ⟨f 0, 0, none⟩))).setCell ⟨w.heap.size, 1, none⟩ (.pointer (some ⟨f 1, 0, none⟩))).setCell ⟨w.heap.size, 2, none⟩ (.pointer (some ⟨f 2, 0, none⟩))).setCell ⟨w.heap.size, 3, none⟩ (.pointer (some ⟨f 3, 0, none⟩))).setCell ⟨w.heap.size, 4, none⟩ (.pointer (some ⟨f 4, 0, none⟩))).setCell ⟨w.heap.size, 5, none⟩ (.pointer (some ⟨f 5, 0, none⟩))).setCell ⟨w.heap.size, 6, none⟩ (.pointer (some ⟨f 6, 0, none⟩))).setCell ⟨w.heap.size, 7, none⟩ (.pointer (some ⟨f 7, 0, none⟩))).heap[w.heap.size]? =
    some (.cells #[.pointer (some ⟨f 0, 0, none⟩), .pointer (some ⟨f 1, 0, none⟩), .pointer (some ⟨f 2, 0, none⟩), .pointer (some ⟨f 3, 0, none⟩), .pointer (some ⟨f 4, 0, none⟩), .pointer (some ⟨f 5, 0, none⟩), .pointer (some ⟨f 6, 0, none⟩), .pointer (some ⟨f 7, 0, none⟩)] 67 (0, 0)) :=
  blk_set (blk_set (blk_set (blk_set (blk_set (blk_set (blk_set (blk_set (heap_alloc_new w _) 0 _) 1 _) 2 _) 3 _) 4 _) 5 _) 6 _) 7 _
theorem below8 (w : World) (f : Nat → Nat) : Below w.heap.size w (((((((((w.alloc (.cells nil8 67)).setCell ⟨w.heap.size, 0, none⟩ (.pointer (some ⟨f 0, 0, none⟩))).setCell ⟨w.heap.size, 1, none⟩ (.pointer (some ⟨f 1, 0, none⟩))).setCell ⟨w.heap.size, 2, none⟩ (.pointer (some ⟨f 2, 0, none⟩))).setCell ⟨w.heap.size, 3, none⟩ (.pointer (some ⟨f 3, 0, none⟩))).setCell ⟨w.heap.size, 4, none⟩ (.pointer (some ⟨f 4, 0, none⟩))).setCell ⟨w.heap.size, 5, none⟩ (.pointer (some ⟨f 5, 0, none⟩))).setCell ⟨w.heap.size, 6, none⟩ (.pointer (some ⟨f 6, 0, none⟩))).setCell ⟨w.heap.size, 7, none⟩ (.pointer (some ⟨f 7, 0, none⟩))) :=
  below_set (below_set (below_set (below_set (below_set (below_set (below_set (below_set (below_alloc (Below.refl _ _) _) (Nat.le_refl _)) (Nat.le_refl _)) (Nat.le_refl _)) (Nat.le_refl _)) (Nat.le_refl _)) (Nat.le_refl _)) (Nat.le_refl _)) (Nat.le_refl _)
end Go.Proofs.Ytnfliommpdjlkaa.Pr
