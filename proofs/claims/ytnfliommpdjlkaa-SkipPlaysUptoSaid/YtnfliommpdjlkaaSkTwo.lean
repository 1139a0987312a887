/- SkC SkE SkF SkG -/
import Derived.Test.YtnfliommpdjlkaaSkOne
import Derived.Deep.RegionWith
section
namespace Go.Proofs.Ytnfliommpdjlkaa.Pr
open Go.RowKit Go.Proofs.Ytnfliommpdjlkaa.Brid Go.Proofs.YtnfliommpdjlkaaW.PrintWords Go.Proofs.YtnfliommpdjlkaaW.PrintLast Go.Proofs.YtnfliommpdjlkaaW.PrintMore
set_option linter.unusedVariables false
set_option linter.unusedSimpArgs false
set_option maxHeartbeats 4000000
set_option maxRecDepth 100000
/-! sizes -/
def sizeI (l : List S27) : Int := 8 + (l.map (fun v => 8 + (v.f2.size : Int))).sum
def bytesI (ds : List S25) : Int := (ds.map (fun d => sizeI d.f1)).sum
theorem wrap_wrap_add (a b : Int) : wrap64 (wrap64 a + b) = wrap64 (a + b) := by unfold wrap64; omega
theorem wrap_add_wrap (a b : Int) : wrap64 (a + wrap64 b) = wrap64 (a + b) := by unfold wrap64; omega
theorem wrap_sub_wrap (a b : Int) : wrap64 (wrap64 a - wrap64 b) = wrap64 (a - b) := by unfold wrap64; omega
theorem rdY_at (l : List S27) (n : Nat) (h : n < l.length) : rd_T27 l (n : Int) = l[n] := by
  simp [rd_T27, List.getD_eq_getElem?_getD, List.getElem?_eq_getElem h]
theorem size_tells (l : List S27) (hl : l.length ≤ 9223372036854775807) : ∀ (d k n : Nat) (a : Int), n + d = l.length → d < k →
    skip_size.l0 k (wrap64 a) l (l.length : Int) (n : Int) = some (wrap64 (a + ((l.drop n).map (fun v => 8 + (v.f2.size : Int))).sum)) := by
  intro d
  induction d with
  | zero =>
    intro k n a hn hk
    obtain ⟨k, rfl⟩ : ∃ m, k = m + 1 := ⟨k - 1, by omega⟩
    rw [skip_size.l0, if_neg (by omega), List.drop_eq_nil_of_le (by omega)]
    simp
  | succ d ih =>
    intro k n a hn hk
    obtain ⟨k, rfl⟩ : ∃ m, k = m + 1 := ⟨k - 1, by omega⟩
    have hlt : n < l.length := by omega
    have hw : wrap64 ((n : Int) + 1) = ((n + 1 : Nat) : Int) := by unfold wrap64; omega
    rw [skip_size.l0, if_pos (by omega), if_pos (by omega), if_pos (by omega), hw, rdY_at l n hlt, wrap_wrap_add, wrap_add_wrap, ih k (n + 1) _ (by omega) (by omega), List.drop_eq_getElem_cons hlt, List.map_cons, List.sum_cons, Int.add_assoc]
theorem size_is (g : Bool) (l : List S27) (hl : l.length ≤ 9223372036854775807) : skip_size.f (l.length + 1) g l = some (wrap64 (sizeI l)) := by
  have := size_tells l hl l.length (l.length + 1) 0 8 (by omega) (by omega)
  rw [List.drop_zero, show wrap64 8 = 8 by unfold wrap64; omega] at this
  unfold skip_size.f sizeI
  exact this
theorem size_T (g : Bool) (A : Option Addr) (c : Nat) (l : List S27) (w : World) (h : Kd.C k27 w A l.length l) (hc : l.length ≤ c) :
    Calls Try.prog 39 #[.agg #[.bool g, .slice A l.length c]] w fun e w' => e = .returned (.int .i64 (wrap64 (sizeI l))) ∧ Below w.heap.size w w' := by
  have := skip_size.calls (l.length + 1) g A c l _ w h hc (size_is g l h.2.1)
  exact this
/-! the list in memory: what it owns is in O; c: its count, b: its bytes -/
structure SkM (w : World) (O : Nat → Prop) (p : Nat) (ns : List (Sk.Nd S25)) (c b : Int) : Prop where
  chain : Sk.Chain (·.f0) 69 71 w p ns
  rows : ∀ n ∈ ns, Kd.R k27 27 w 0 O n.v n.d.f1
  full : ∀ n ∈ ns, 0 < n.d.f1.length
  seed : ∃ s, w.cell? ⟨p, 10, none⟩ = some (.int .u64 s)
  cnt : w.cell? ⟨p, 11, none⟩ = some (.int .i64 c)
  byt : w.cell? ⟨p, 12, none⟩ = some (.int .i64 b)
  op : O p
  on : ∀ n ∈ ns, O n.b
section
variable {w w1 : World} {O O' : Nat → Prop} {p : Nat} {ns : List (Sk.Nd S25)} {c b : Int}
theorem SkM.rowsOk (H : SkM w O p ns c b) : RowsOk w ns := by
  intro n hn
  have hl := H.full n hn
  obtain ⟨A, c, hv⟩ := Kd.R_slice (H.rows n hn)
  have hr := H.rows n hn
  rw [hv] at hr
  obtain ⟨_, hc, hC⟩ := Kd.R_reads' hr
  obtain ⟨ad, hA, _⟩ := hC.2.2 hl
  subst hA
  exact ⟨ad, c, hv, hc, hC, hl⟩
/-- what it owns has not turned -/
theorem SkM.keep (H : SkM w O p ns c b) (h : ∀ k, O k → k < w.heap.size → w1.heap[k]? = w.heap[k]?) : SkM w1 O p ns c b := by
  have hp : w1.heap[p]? = w.heap[p]? := h p H.op H.chain.head.lt
  have hc : ∀ j v, w.cell? ⟨p, j, none⟩ = some v → w1.cell? ⟨p, j, none⟩ = some v := fun j v hv => by
    unfold World.cell? at *
    simp only [hp]
    exact hv
  refine ⟨H.chain.keep hp (fun n hn => ?_), fun n hn => Kd.R_step (H.rows n hn) h, H.full, ?_, hc _ _ H.cnt, hc _ _ H.byt, H.op, H.on⟩
  · obtain ⟨a, c, hs⟩ := List.append_of_mem hn
    exact h n.b (H.on n hn) (H.chain.node a n c hs).lt
  · obtain ⟨s, hs⟩ := H.seed
    exact ⟨s, hc _ _ hs⟩
theorem SkM.below (H : SkM w O p ns c b) (h : Below w.heap.size w w1) : SkM w1 O p ns c b := H.keep (fun k _ hk => h.block k hk)
theorem SkM.mono (H : SkM w O p ns c b) (h : ∀ k, O k → O' k) : SkM w O' p ns c b :=
  ⟨H.chain, fun n hn => Kd.R_mono (H.rows n hn) h, H.full, H.seed, H.cnt, H.byt, h _ H.op, fun n hn => h _ (H.on n hn)⟩
/-- what it owns lies in w -/
theorem SkM.bound (H : SkM w O p ns c b) : SkM w (fun k => O k ∧ k < w.heap.size) p ns c b :=
  ⟨H.chain, fun n hn => Kd.R_mono (Kd.R_bound (H.rows n hn)) (fun k hk => ⟨hk.1, hk.2.2.1⟩), H.full, H.seed, H.cnt, H.byt, ⟨H.op, H.chain.head.lt⟩, fun n hn => by
    obtain ⟨a, c, hs⟩ := List.append_of_mem hn
    exact ⟨H.on n hn, (H.chain.node a n c hs).lt⟩⟩
theorem SkM.headBlk (H : SkM w O p ns c b) : ∃ cs, w.heap[p]? = some (.cells cs 71 (0, 0)) ∧ cs.size = 13 := by
  obtain ⟨cs, h1, h2, _⟩ := H.chain.head
  exact ⟨cs, h1, h2⟩
theorem k27_E (t : Nat) (ht : t ≠ 27) : ∀ q, q ∈ 27 :: k27.E → q ≠ t := by
  intro q hq
  simp [k27, Kd.iso, Kd.pair, Kd.bool, Kd.int, Kd.string, Kd.scalar] at hq
  omega
theorem cell_set_ne (w : World) (p i j : Nat) (x : Value) (h : j ≠ i) : (w.setCell ⟨p, j, none⟩ x).cell? ⟨p, i, none⟩ = w.cell? ⟨p, i, none⟩ := by
  unfold World.cell? World.setCell
  simp only [Array.getElem?_modify, if_pos]
  cases w.heap[p]? with
  | none => rfl
  | some o => cases o <;> simp [Array.getElem?_setIfInBounds, h]
theorem cell_set_eq (w : World) (p i : Nat) (x v : Value) (h : w.cell? ⟨p, i, none⟩ = some v) : (w.setCell ⟨p, i, none⟩ x).cell? ⟨p, i, none⟩ = some x := World.cell?_setCell_same' _ _ _ (by rw [h]; rfl)
theorem SkM.rowsSet (H : SkM w O p ns c b) (j : Nat) (x : Value) : ∀ n ∈ ns, Kd.R k27 27 (w.setCell ⟨p, j, none⟩ x) 0 O n.v n.d.f1 := by
  intro n hn
  obtain ⟨cs, hb, _⟩ := H.headBlk
  exact Kd.R_set (H.rows n hn) hb (k27_E 71 (by omega)) j x
theorem SkM.setB (H : SkM w O p ns c b) (b' : Int) : SkM (w.setCell ⟨p, 12, none⟩ (.int .i64 b')) O p ns c b' :=
  ⟨H.chain.setRest 12 (by omega) _, H.rowsSet 12 _, H.full, by obtain ⟨s, hs⟩ := H.seed; exact ⟨s, (cell_set_ne w p 10 12 _ (by omega)).trans hs⟩, (cell_set_ne w p 11 12 _ (by omega)).trans H.cnt, cell_set_eq w p 12 _ _ H.byt, H.op, H.on⟩
theorem SkM.setC (H : SkM w O p ns c b) (c' : Int) : SkM (w.setCell ⟨p, 11, none⟩ (.int .i64 c')) O p ns c' b :=
  ⟨H.chain.setRest 11 (by omega) _, H.rowsSet 11 _, H.full, by obtain ⟨s, hs⟩ := H.seed; exact ⟨s, (cell_set_ne w p 10 11 _ (by omega)).trans hs⟩, cell_set_eq w p 11 _ _ H.cnt, (cell_set_ne w p 12 11 _ (by omega)).trans H.byt, H.op, H.on⟩
theorem SkM.setS (H : SkM w O p ns c b) (s' : Int) : SkM (w.setCell ⟨p, 10, none⟩ (.int .u64 s')) O p ns c b := by
  obtain ⟨s, hs⟩ := H.seed
  exact ⟨H.chain.setRest 10 (by omega) _, H.rowsSet 10 _, H.full, ⟨s', cell_set_eq w p 10 _ _ hs⟩, (cell_set_ne w p 11 10 _ (by omega)).trans H.cnt, (cell_set_ne w p 12 10 _ (by omega)).trans H.byt, H.op, H.on⟩
theorem SkM.sim (H : SkM w O p ns c b) (s : Sim w1 w) : SkM w1 O p ns c b := H.keep (fun k _ _ => by rw [s.1])
/-- a list, whole -/
structure SkL (w : World) (O : Nat → Prop) (p : Nat) (ns : List (Sk.Nd S25)) : Prop where
  m : SkM w O p ns ns.length (wrap64 (bytesI (ns.map (·.d))))
  pos : ∀ n ∈ ns, 0 < n.h
  sorted : (ns.map (·.d)).Pairwise (fun a b => lessT (keyT a) (keyT b) = true)
theorem SkL.keep (H : SkL w O p ns) (h : ∀ k, O k → k < w.heap.size → w1.heap[k]? = w.heap[k]?) : SkL w1 O p ns := ⟨H.m.keep h, H.pos, H.sorted⟩
theorem SkL.below (H : SkL w O p ns) (h : Below w.heap.size w w1) : SkL w1 O p ns := ⟨H.m.below h, H.pos, H.sorted⟩
theorem SkL.mono (H : SkL w O p ns) (h : ∀ k, O k → O' k) : SkL w O' p ns := ⟨H.m.mono h, H.pos, H.sorted⟩
theorem SkL.bound (H : SkL w O p ns) : SkL w (fun k => O k ∧ k < w.heap.size) p ns := ⟨H.m.bound, H.pos, H.sorted⟩
end
/-! what is ahead of a key, and what isn't -/
theorem lessT_irrefl (a : S27) : lessT a a = false := Thy.less_irrefl _ _ _
theorem lessT_trans {a b c : S27} (h : lessT a b = true) (k : lessT b c = true) : lessT a c = true := Thy.less_trans h k
theorem notlessT_trans {a b c : S27} (h : lessT a b = false) (k : lessT b c = false) : lessT a c = false := Thy.notless_trans h k
theorem lessT_asymm {a b : S27} (h : lessT a b = true) : lessT b a = false := Thy.less_asymm h
section
variable {δ : Type} (key : δ → S27) (k : S27)
def preOf (ns : List δ) : List δ := ns.takeWhile (fun n => lessT (key n) k)
def postOf (ns : List δ) : List δ := ns.dropWhile (fun n => lessT (key n) k)
theorem pre_post (ns : List δ) : preOf key k ns ++ postOf key k ns = ns := List.takeWhile_append_dropWhile
theorem preOf_less (ns : List δ) : ∀ n ∈ preOf key k ns, lessT (key n) k = true := by
  intro n hn
  have : ∀ l : List δ, ∀ n ∈ l.takeWhile (fun n => lessT (key n) k), lessT (key n) k = true := by
    intro l
    induction l with
    | nil => intro n hn; cases hn
    | cons a l ih =>
      intro n hn
      rw [List.takeWhile_cons] at hn
      split at hn
      · rcases List.mem_cons.1 hn with rfl | hn
        · assumption
        · exact ih n hn
      · cases hn
  exact this ns n hn
theorem postOf_not (ns : List δ) (hs : ns.Pairwise (fun a b => lessT (key a) (key b) = true)) : ∀ n ∈ postOf key k ns, lessT (key n) k = false := by
  induction ns with
  | nil => intro n hn; cases hn
  | cons a l ih =>
    intro n hn
    rw [postOf, List.dropWhile_cons] at hn
    split at hn
    · exact ih (List.pairwise_cons.1 hs).2 n hn
    · rename_i ha
      have ha : lessT (key a) k = false := by simpa using ha
      rcases List.mem_cons.1 hn with rfl | hn
      · exact ha
      · cases h : lessT (key n) k with
        | false => rfl
        | true => rw [lessT_trans ((List.pairwise_cons.1 hs).1 n hn) h] at ha; cases ha
end
/-- a deed put into a list in order -/
def putV (ds : List S25) (d : S25) : List S25 :=
  preOf keyT (keyT d) ds ++ d :: (match postOf keyT (keyT d) ds with | [] => [] | e :: r => if lessT (keyT d) (keyT e) = true then e :: r else r)
theorem preOf_map (k : S27) (ns : List (Sk.Nd S25)) : (preOf (fun n => keyT n.d) k ns).map (·.d) = preOf keyT k (ns.map (·.d)) := by
  simp only [preOf, List.takeWhile_map]; rfl
theorem postOf_map (k : S27) (ns : List (Sk.Nd S25)) : (postOf (fun n => keyT n.d) k ns).map (·.d) = postOf keyT k (ns.map (·.d)) := by
  simp only [postOf, List.dropWhile_map]; rfl
theorem putV_sorted (ds : List S25) (d : S25) (hs : ds.Pairwise (fun a b => lessT (keyT a) (keyT b) = true)) : (putV ds d).Pairwise (fun a b => lessT (keyT a) (keyT b) = true) := by
  have h0 := pre_post keyT (keyT d) ds
  have h1 := preOf_less keyT (keyT d) ds
  have h2 := postOf_not keyT (keyT d) ds hs
  unfold putV
  generalize preOf keyT (keyT d) ds = u at *
  generalize postOf keyT (keyT d) ds = v at *
  subst h0
  obtain ⟨hu, hv, huv⟩ := List.pairwise_append.1 hs
  have tail : ∀ r : List S25, r.Pairwise (fun a b => lessT (keyT a) (keyT b) = true) → (∀ b ∈ r, lessT (keyT d) (keyT b) = true) → (u ++ d :: r).Pairwise (fun a b => lessT (keyT a) (keyT b) = true) := by
    intro r hr hd
    refine List.pairwise_append.2 ⟨hu, List.pairwise_cons.2 ⟨hd, hr⟩, fun a ha b hb => ?_⟩
    rcases List.mem_cons.1 hb with rfl | hb
    · exact h1 a ha
    · exact lessT_trans (h1 a ha) (hd b hb)
  cases v with
  | nil => exact tail [] List.Pairwise.nil (fun b hb => by cases hb)
  | cons e r =>
    obtain ⟨he, hr⟩ := List.pairwise_cons.1 hv
    by_cases hde : lessT (keyT d) (keyT e) = true
    · simp only [hde, if_true]
      exact tail _ hv (fun b hb => by
        rcases List.mem_cons.1 hb with rfl | hb
        · exact hde
        · exact lessT_trans hde (he b hb))
    · simp only [hde]
      refine tail r hr (fun b hb => ?_)
      cases hx : lessT (keyT d) (keyT b) with
      | true => rfl
      | false =>
        -- d is e's like
        have hed : lessT (keyT e) (keyT d) = false := h2 e (by simp)
        have := notlessT_trans hed hx
        rw [he b hb] at this; cases this
theorem bytesI_app (a b : List S25) : bytesI (a ++ b) = bytesI a + bytesI b := by simp [bytesI]
theorem bytesI_cons (a : S25) (b : List S25) : bytesI (a :: b) = sizeI a.f1 + bytesI b := by simp [bytesI]
/-- how the world may turn: what lay in w and is not in O lies as it lay -/
structure Fr (O : Nat → Prop) (w w' : World) : Prop where
  os : w'.os = w.os
  tape : w'.tape = w.tape
  output : w'.output = w.output
  size : w.heap.size ≤ w'.heap.size
  block : ∀ k, k < w.heap.size → ¬ O k → w'.heap[k]? = w.heap[k]?
theorem Fr.of_below {O : Nat → Prop} {w w' : World} (h : Below w.heap.size w w') : Fr O w w' := ⟨h.os, h.tape, h.output, h.size, fun k hk _ => h.block k hk⟩
theorem Fr.trans {O : Nat → Prop} {a b c : World} (h : Fr O a b) (k : Fr O b c) : Fr O a c := ⟨k.os.trans h.os, k.tape.trans h.tape, k.output.trans h.output, Nat.le_trans h.size k.size, fun i hi hn => (k.block i (Nat.lt_of_lt_of_le hi h.size) hn).trans (h.block i hi hn)⟩
theorem Fr.mono {O O' : Nat → Prop} {a b : World} (h : Fr O a b) (hO : ∀ k, k < a.heap.size → O k → O' k) : Fr O' a b := ⟨h.os, h.tape, h.output, h.size, fun i hi hn => h.block i hi (fun hh => hn (hO i hi hh))⟩
theorem Fr.set {O : Nat → Prop} {a b : World} (h : Fr O a b) {q : Nat} (hq : O q ∨ a.heap.size ≤ q) (j : Nat) (v : Value) : Fr O a (b.setCell ⟨q, j, none⟩ v) :=
  ⟨h.os, h.tape, h.output, by simpa [World.setCell] using h.size, fun i hi hn => by
    have hne : i ≠ q := by
      rintro rfl
      rcases hq with hq | hq
      · exact hn hq
      · omega
    exact (Sk.heap_set_ne b q j i v hne).trans (h.block i hi hn)⟩
theorem Fr.sim {O : Nat → Prop} {a b c : World} (h : Fr O a b) (s : Sim c b) : Fr O a c := ⟨s.2.1.trans h.os, s.2.2.1.trans h.tape, s.2.2.2.trans h.output, by rw [s.1]; exact h.size, fun i hi hn => by rw [s.1]; exact h.block i hi hn⟩
/-- behind a part of the code: the frame A, a world that is G -/
def CutP (A : Act) (G : World → Prop) : Exit → Act → World → Prop
  | .normal, a', w' => a' = A ∧ G w'
  | _, _, _ => False
theorem wp_cut_T {P : Program} {c : Code} {Q' : Exit → Act → World → Prop} {a : Act} {w : World} (G : World → Prop) (h : ∃ A, c.wp P (CutP A G) a w ∧ ∀ w', G w' → Q' .normal A w') : c.wp P Q' a w := by
  obtain ⟨A, h1, h2⟩ := h
  refine Code.wp_mono (fun e a' w' hh => ?_) h1
  cases e with
  | normal => obtain ⟨rfl, hG⟩ := hh; exact h2 w' hG
  | ret => exact hh.elim
  | exit id => exact hh.elim
  | goto t => exact hh.elim
  | panic c => exact hh.elim
  | outgrown => exact hh.elim
end Go.Proofs.Ytnfliommpdjlkaa.Pr
end
section
namespace Go.Proofs.Ytnfliommpdjlkaa.Pr
open Go.RowKit Go.Proofs.Ytnfliommpdjlkaa.Brid Go.Proofs.YtnfliommpdjlkaaW.PrintWords Go.Proofs.YtnfliommpdjlkaaW.PrintLast Go.Proofs.YtnfliommpdjlkaaW.PrintMore
set_option linter.unusedVariables false
set_option linter.unusedSimpArgs false
set_option maxHeartbeats 4000000
set_option maxRecDepth 100000
theorem w64 (x : Int) : IntKind.i64.wrap x = wrap64 x := by rw [IntKind.wrap_i64]; unfold wrap64; omega
theorem R_setT {w : World} {base : Nat} {O : Nat → Prop} {v : Value} {l : List S27} (h : Kd.R k27 27 w base O v l) {g t : Nat} (hg : ∃ cs, w.heap[g]? = some (.cells cs t (0, 0))) (ht : t ≠ 27) (j : Nat) (x : Value) : Kd.R k27 27 (w.setCell ⟨g, j, none⟩ x) base O v l := by
  obtain ⟨cs, hb⟩ := hg
  exact Kd.R_set h hb (k27_E t ht) j x
section
variable {w w1 : World} {O O' : Nat → Prop} {p : Nat} {c b : Int} {u v : List (Sk.Nd S25)}
theorem lstBlk {ns : List (Sk.Nd S25)} (H : Sk.Chain (·.f0) 69 71 w p ns) (hs : ns = u ++ v) (L : Nat) : ∃ t cs, w.heap[Sk.lst p L u]? = some (.cells cs t (0, 0)) ∧ t ≠ 27 := by
  rcases Sk.lst_mem_or (p := p) (L := L) u with ⟨e, _⟩ | ⟨u1, n, u2, hu, _, _, e⟩
  · rw [e]
    obtain ⟨cs, h1, _⟩ := H.head
    exact ⟨71, cs, h1, by decide⟩
  · rw [e]
    obtain ⟨cs, h1, _⟩ := H.node u1 n (u2 ++ v) (by rw [hs, hu]; simp)
    exact ⟨69, cs, h1, by decide⟩
theorem chain_cell {ns : List (Sk.Nd S25)} (H : Sk.Chain (·.f0) 69 71 w p ns) (hs : ns = u ++ v) (L i j : Nat) (hi : 10 ≤ i) (hj : j < 10) (x : Value) : (w.setCell ⟨Sk.lst p L u, j, none⟩ x).cell? ⟨p, i, none⟩ = w.cell? ⟨p, i, none⟩ := by
  rcases Sk.lst_mem_or (p := p) (L := L) u with ⟨e, _⟩ | ⟨u1, n, u2, hu, _, _, e⟩
  · rw [e]; exact cell_set_ne w p i j x (by omega)
  · rw [e]
    unfold World.cell?
    rw [Sk.heap_set_ne _ _ _ _ _ (fun h => H.ne n (by rw [hs, hu]; simp) h.symm)]
theorem cell_far (w : World) (q p j i : Nat) (x : Value) (h : p ≠ q) : (w.setCell ⟨q, j, none⟩ x).cell? ⟨p, i, none⟩ = w.cell? ⟨p, i, none⟩ := by
  unfold World.cell?
  rw [Sk.heap_set_ne _ _ _ _ _ h]
/-- a new node, linked nowhere yet -/
theorem SkM.fresh (H : SkM w O p (u ++ v) c b) {nb : Nat} {rv : Value} {d : S25} (hb : w1.heap[nb]? = some (.cells #[.bool d.f0, rv, .pointer none, .pointer none, .pointer none, .pointer none, .pointer none, .pointer none, .pointer none, .pointer none] 69 (0, 0)))
    (hB : Below w.heap.size w w1) (hn : w.heap.size ≤ nb) (hO : ∀ k, O k → O' k) (hOn : O' nb) (hr : Kd.R k27 27 w1 0 O' rv d.f1) (hl : 0 < d.f1.length) : SkM w1 O' p (u ++ ⟨nb, 0, rv, d⟩ :: v) c b := by
  have H1 := (H.below hB).mono hO
  have hlt : ∀ n ∈ u ++ v, n.b < w.heap.size := fun n hn => by
    obtain ⟨a, c, hs⟩ := List.append_of_mem hn
    exact (H.chain.node a n c hs).lt
  refine ⟨H.chain.fresh (d := d) hb (hB.block _ H.chain.head.lt) (fun n hn => hB.block _ (hlt n hn)) (by have := H.chain.head.lt; omega) (fun n hm => by have := hlt n hm; omega), fun n hm => ?_, fun n hm => ?_, H1.seed, H1.cnt, H1.byt, H1.op, fun n hm => ?_⟩
  · rcases List.mem_append.1 hm with h | h
    · exact H1.rows n (List.mem_append_left _ h)
    · rcases List.mem_cons.1 h with rfl | h
      · exact hr
      · exact H1.rows n (List.mem_append_right _ h)
  · rcases List.mem_append.1 hm with h | h
    · exact H1.full n (List.mem_append_left _ h)
    · rcases List.mem_cons.1 h with rfl | h
      · exact hl
      · exact H1.full n (List.mem_append_right _ h)
  · rcases List.mem_append.1 hm with h | h
    · exact H1.on n (List.mem_append_left _ h)
    · rcases List.mem_cons.1 h with rfl | h
      · exact hOn
      · exact H1.on n (List.mem_append_right _ h)
theorem mem_swap {n n' m : Sk.Nd S25} {P : Sk.Nd S25 → Prop} (h : ∀ m ∈ u ++ n :: v, P m) (h' : P n') : ∀ m ∈ u ++ n' :: v, P m := by
  intro m hm
  rcases List.mem_append.1 hm with k | k
  · exact h m (List.mem_append_left _ k)
  · rcases List.mem_cons.1 k with rfl | k
    · exact h'
    · exact h m (List.mem_append_right _ (List.mem_cons_of_mem _ k))
theorem SkM.grow {nb i : Nat} {rv : Value} {d : S25} (H : SkM w O p (u ++ ⟨nb, i, rv, d⟩ :: v) c b) (hi : i < 8) :
    SkM ((w.setCell ⟨nb, 2 + i, none⟩ (Sk.ptr (Sk.nxt i v))).setCell ⟨Sk.lst p i u, 2 + i, none⟩ (Sk.ptr (some nb))) O p (u ++ ⟨nb, i + 1, rv, d⟩ :: v) c b := by
  have hnb : ∃ cs, w.heap[nb]? = some (.cells cs 69 (0, 0)) := by
    obtain ⟨cs, h1, _⟩ := H.chain.node u ⟨nb, i, rv, d⟩ v rfl
    exact ⟨cs, h1⟩
  have hnp : nb ≠ p := H.chain.ne ⟨nb, i, rv, d⟩ (by simp)
  obtain ⟨t, cs, hl, ht⟩ := lstBlk (u := u) H.chain rfl i
  have hne : Sk.lst p i u ≠ nb := by
    rcases Sk.lst_mem_or (p := p) (L := i) u with ⟨e, _⟩ | ⟨u1, n, u2, hu, hn, _, e⟩
    · rw [e]; exact fun h => hnp h.symm
    · rw [e]; exact (Sk.nodup_mid H.chain.nodup).1 n (by rw [hu]; simp)
  have rows : ∀ n ∈ u ++ ⟨nb, i, rv, d⟩ :: v, Kd.R k27 27 ((w.setCell ⟨nb, 2 + i, none⟩ (Sk.ptr (Sk.nxt i v))).setCell ⟨Sk.lst p i u, 2 + i, none⟩ (Sk.ptr (some nb))) 0 O n.v n.d.f1 := fun n hn =>
    R_setT (R_setT (H.rows n hn) hnb (by omega) _ _) ⟨cs, (Sk.heap_set_ne _ _ _ _ _ hne).trans hl⟩ ht _ _
  have cell : ∀ j, 10 ≤ j → ((w.setCell ⟨nb, 2 + i, none⟩ (Sk.ptr (Sk.nxt i v))).setCell ⟨Sk.lst p i u, 2 + i, none⟩ (Sk.ptr (some nb))).cell? ⟨p, j, none⟩ = w.cell? ⟨p, j, none⟩ := by
    intro j hj
    have h2 : (w.setCell ⟨nb, 2 + i, none⟩ (Sk.ptr (Sk.nxt i v))).cell? ⟨p, j, none⟩ = w.cell? ⟨p, j, none⟩ := cell_far _ _ _ _ _ _ (fun h => hnp h.symm)
    rcases Sk.lst_mem_or (p := p) (L := i) u with ⟨e, _⟩ | ⟨u1, n, u2, hu, hn, _, e⟩
    · rw [e, cell_set_ne _ _ _ _ _ (by omega)]; exact h2
    · rw [e, cell_far _ _ _ _ _ _ (fun h => H.chain.ne n (by rw [hu]; simp) h.symm)]; exact h2
  obtain ⟨s, hs⟩ := H.seed
  exact ⟨H.chain.grow hi, mem_swap (P := fun n => Kd.R k27 27 _ 0 O n.v n.d.f1) (m := ⟨nb, i, rv, d⟩) rows (rows ⟨nb, i, rv, d⟩ (by simp)), mem_swap (P := fun n => 0 < n.d.f1.length) (m := ⟨nb, i, rv, d⟩) H.full (H.full ⟨nb, i, rv, d⟩ (by simp)),
    ⟨s, (cell 10 (by omega)).trans hs⟩, (cell 11 (by omega)).trans H.cnt, (cell 12 (by omega)).trans H.byt, H.op, mem_swap (P := fun n => O n.b) (m := ⟨nb, i, rv, d⟩) H.on (H.on ⟨nb, i, rv, d⟩ (by simp))⟩
/-- another deed at a node -/
theorem SkM.put {n : Sk.Nd S25} {rv : Value} {d : S25} (H : SkM w O p (u ++ n :: v) c b) (hO : ∀ k, O k → O' k) (hr : Kd.R k27 27 w 0 O' rv d.f1) (hl : 0 < d.f1.length) :
    SkM ((w.setCell ⟨n.b, 0, none⟩ (.bool d.f0)).setCell ⟨n.b, 1, none⟩ rv) O' p (u ++ ⟨n.b, n.h, rv, d⟩ :: v) c b := by
  have hnb : ∃ cs, w.heap[n.b]? = some (.cells cs 69 (0, 0)) := by
    obtain ⟨cs, h1, _⟩ := H.chain.node u n v rfl
    exact ⟨cs, h1⟩
  have hnb2 : ∃ cs, (w.setCell ⟨n.b, 0, none⟩ (.bool d.f0)).heap[n.b]? = some (.cells cs 69 (0, 0)) := by
    obtain ⟨cs, h1⟩ := hnb
    exact ⟨_, Sk.heap_set h1 _ _⟩
  have hnp : n.b ≠ p := H.chain.ne n (by simp)
  have H1 := H.mono hO
  have rows : ∀ (rv' : Value) (l : List S27), Kd.R k27 27 w 0 O' rv' l → Kd.R k27 27 ((w.setCell ⟨n.b, 0, none⟩ (.bool d.f0)).setCell ⟨n.b, 1, none⟩ rv) 0 O' rv' l := fun rv' l h =>
    R_setT (R_setT h hnb (by omega) _ _) hnb2 (by omega) _ _
  have cell : ∀ j, ((w.setCell ⟨n.b, 0, none⟩ (.bool d.f0)).setCell ⟨n.b, 1, none⟩ rv).cell? ⟨p, j, none⟩ = w.cell? ⟨p, j, none⟩ := fun j =>
    (cell_far _ _ _ _ _ _ (fun h => hnp h.symm)).trans (cell_far _ _ _ _ _ _ (fun h => hnp h.symm))
  obtain ⟨s, hs⟩ := H.seed
  exact ⟨H.chain.put rv d, mem_swap (P := fun n => Kd.R k27 27 _ 0 O' n.v n.d.f1) (m := n) (fun m hm => rows _ _ (H1.rows m hm)) (rows _ _ hr), mem_swap (P := fun n => 0 < n.d.f1.length) (m := n) H.full hl,
    ⟨s, (cell 10).trans hs⟩, (cell 11).trans H.cnt, (cell 12).trans H.byt, H1.op, mem_swap (P := fun n => O' n.b) (m := n) H1.on (H1.on n (by simp))⟩
end
/-- eight pointers in a new block -/
theorem set8 (w : World) (f : Nat → Nat) : (((((((((w.alloc (.cells nil8 67)).setCell ⟨w.heap.size, 0, none⟩ (.pointer (some ⟨f 0, 0, none⟩))).setCell ⟨w.heap.size, 1, none⟩ (.pointer (some ⟨f 1, 0, none⟩))).setCell ⟨w.heap.size, 2, none⟩ (.pointer (some ⟨f 2, 0, none⟩))).setCell ⟨w.heap.size, 3, none⟩ (.pointer (some ⟨f 3, 0, none⟩))).setCell ⟨w.heap.size, 4, none⟩ (.pointer (some ⟨f 4, 0, none⟩))).setCell ⟨w.heap.size, 5, none⟩ (.pointer (some ⟨f 5, 0, none⟩))).setCell ⟨w.heap.size, 6, none⟩ (.pointer (some ⟨f 6, 0, none⟩))).setCell ⟨w.heap.size, 7, none⟩ (.pointer (some ⟨f 7, 0, none⟩))).heap[w.heap.size]? =
    some (.cells #[.pointer (some ⟨f 0, 0, none⟩), .pointer (some ⟨f 1, 0, none⟩), .pointer (some ⟨f 2, 0, none⟩), .pointer (some ⟨f 3, 0, none⟩), .pointer (some ⟨f 4, 0, none⟩), .pointer (some ⟨f 5, 0, none⟩), .pointer (some ⟨f 6, 0, none⟩), .pointer (some ⟨f 7, 0, none⟩)] 67 (0, 0)) :=
  blk_set (blk_set (blk_set (blk_set (blk_set (blk_set (blk_set (blk_set (heap_alloc_new w _) 0 _) 1 _) 2 _) 3 _) 4 _) 5 _) 6 _) 7 _
theorem below8 (w : World) (f : Nat → Nat) : Below w.heap.size w (((((((((w.alloc (.cells nil8 67)).setCell ⟨w.heap.size, 0, none⟩ (.pointer (some ⟨f 0, 0, none⟩))).setCell ⟨w.heap.size, 1, none⟩ (.pointer (some ⟨f 1, 0, none⟩))).setCell ⟨w.heap.size, 2, none⟩ (.pointer (some ⟨f 2, 0, none⟩))).setCell ⟨w.heap.size, 3, none⟩ (.pointer (some ⟨f 3, 0, none⟩))).setCell ⟨w.heap.size, 4, none⟩ (.pointer (some ⟨f 4, 0, none⟩))).setCell ⟨w.heap.size, 5, none⟩ (.pointer (some ⟨f 5, 0, none⟩))).setCell ⟨w.heap.size, 6, none⟩ (.pointer (some ⟨f 6, 0, none⟩))).setCell ⟨w.heap.size, 7, none⟩ (.pointer (some ⟨f 7, 0, none⟩))) :=
  below_set (below_set (below_set (below_set (below_set (below_set (below_set (below_set (below_alloc (Below.refl _ _) _) (Nat.le_refl _)) (Nat.le_refl _)) (Nat.le_refl _)) (Nat.le_refl _)) (Nat.le_refl _)) (Nat.le_refl _)) (Nat.le_refl _)) (Nat.le_refl _)
end Go.Proofs.Ytnfliommpdjlkaa.Pr
end
section
namespace Go.Proofs.Ytnfliommpdjlkaa.Pr
open Go.RowKit Go.Proofs.Ytnfliommpdjlkaa.Brid Go.Proofs.YtnfliommpdjlkaaW.PrintWords Go.Proofs.YtnfliommpdjlkaaW.PrintLast Go.Proofs.YtnfliommpdjlkaaW.PrintMore
set_option linter.unusedVariables false
set_option linter.unusedSimpArgs false
set_option maxHeartbeats 4000000
set_option maxRecDepth 100000
/-- what Put leaves: a new node, or another deed at the node of the key -/
def PutPost (w : World) (O : Nat → Prop) (p : Nat) (pre post : List (Sk.Nd S25)) (cc bb : Int) (d : S25) (w' : World) : Prop :=
  match nodeOf (keyT d) post with
  | none => ∃ nb h rv, 0 < h ∧ SkM w' (fun k => O k ∨ w.heap.size ≤ k) p (pre ++ ⟨nb, h, rv, d⟩ :: post) (wrap64 (cc + 1)) (wrap64 (bb + sizeI d.f1))
  | some _ => ∃ n r rv, post = n :: r ∧ SkM w' (fun k => O k ∨ w.heap.size ≤ k) p (pre ++ ⟨n.b, n.h, rv, d⟩ :: r) cc (wrap64 (bb + sizeI d.f1 - sizeI n.d.f1))
theorem arr8_at (f : Nat → Nat) (i : Nat) (hi : i < 8) : (#[.pointer (some ⟨f 0, 0, none⟩), .pointer (some ⟨f 1, 0, none⟩), .pointer (some ⟨f 2, 0, none⟩), .pointer (some ⟨f 3, 0, none⟩), .pointer (some ⟨f 4, 0, none⟩), .pointer (some ⟨f 5, 0, none⟩), .pointer (some ⟨f 6, 0, none⟩), .pointer (some ⟨f 7, 0, none⟩)] : Array Value)[i]? = some (.pointer (some ⟨f i, 0, none⟩)) := by
  match i, hi with
  | 0, _ => rfl
  | 1, _ => rfl
  | 2, _ => rfl
  | 3, _ => rfl
  | 4, _ => rfl
  | 5, _ => rfl
  | 6, _ => rfl
  | 7, _ => rfl
theorem put_T (p : Nat) (d : S25) (A0 : Option Addr) (c0 : Nat) (pre post : List (Sk.Nd S25)) (O : Nat → Prop) (cc bb : Int) (w : World) (H : SkM w O p (pre ++ post) cc bb)
    (hpre : ∀ n ∈ pre, lessT (keyT n.d) (keyT d) = true) (hpost : ∀ n ∈ post, lessT (keyT n.d) (keyT d) = false) (hh : ∀ n ∈ pre ++ post, 0 < n.h) (hC : Kd.C k27 w A0 d.f1.length d.f1) (hc : d.f1.length ≤ c0) (hl : 0 < d.f1.length) (hm : d.f1.length ≤ 4398046511103) :
    Calls Try.prog 16 #[.pointer (some ⟨p, 0, none⟩), .agg #[.bool d.f0, .slice A0 d.f1.length c0]] w fun e w' => e = .returned (.bool true) ∧ Fr O w w' ∧ PutPost w O p pre post cc bb d w' := by
  have b1 : Below w.heap.size w (w.alloc (.cells #[.bool d.f0, .slice A0 d.f1.length c0] 25)) := below_alloc (Below.refl _ _) _
  have K0 := heap_alloc_new w (.cells #[.bool d.f0, .slice A0 d.f1.length c0] 25)
  have hcl := cloneR.calls A0 c0 d.f1 d.f1 _ (Kd.C_below hC b1) hc (by unfold cloneR.f; rw [if_pos hm])
  have HH := Aside0.mk H
  have HB1 := Aside0.mk b1
  have HK0 := Aside0.mk K0
  have hlz : (0 : Int) < (d.f1.length : Int) := by omega
  have hlne : ¬ (d.f1.length : Int) = 0 := by omega
  have hlneb : ((d.f1.length : Int) == 0) = false := beq_eq_false_iff_ne.2 hlne
  have hlneN : ¬ d.f1.length = 0 := by omega
  clear H b1 K0 hC
  go_enter Try.func16, Try.ntmps16
  go_wp2_with (go_at_call 38; refine hcl.mono ?_; rintro e w2 ⟨v, rfl, hR, hb2⟩; obtain ⟨Av, cv, hv⟩ := Kd.R_slice hR; subst hv; have HR := Aside0.mk hR; have HB2 := Aside0.mk hb2; have K2 := blk_below HK0.out hb2; have c0_ := (blk_cell K2 0).trans rfl; have c1_ := (blk_cell K2 1).trans rfl; have f1_ := blk_frozen K2 1; have HK2 := Aside0.mk K2; clear hR hb2 K2 hcl)
  have HB3 := Aside0.mk (below_set (j := 1) (v := .slice Av d.f1.length cv) (below_then HB1.out HB1.out.size HB2.out) (Nat.le_refl w.heap.size))
  have HK3 : Aside0 ((w2.setCell ⟨w.heap.size, 1, none⟩ (.slice Av d.f1.length cv)).heap[w.heap.size]? = some (.cells #[.bool d.f0, .slice Av d.f1.length cv] 25 (0, 0))) := ⟨blk_set HK2.out 1 _⟩
  have HR3 := Aside0.mk (Kd.R_set HR.out HK2.out (k27_E 25 (by omega)) 1 (.slice Av d.f1.length cv))
  clear c0_ c1_ f1_ HR HB2 HK2
  generalize w2.setCell ⟨w.heap.size, 1, none⟩ (.slice Av d.f1.length cv) = w3 at *
  have H3 := HH.out.below HB3.out
  have HH3 := Aside0.mk H3
  clear H3
  have hsz := fun (W : World) (hB : Below w3.heap.size w3 W) => (size_T d.f0 Av cv d.f1 W (Kd.C_below (Kd.R_reads' HR3.out).2.2 hB) (Kd.R_reads' HR3.out).2.1).mono (R' := fun e w' => e = .returned (.int .i64 (wrap64 (sizeI d.f1))) ∧ Below w3.heap.size w3 w') (fun e w' h => ⟨h.1, below_then hB hB.size h.2⟩)
  obtain ⟨sz, hszd⟩ : ∃ sz, sz = sizeI d.f1 := ⟨_, rfl⟩
  rw [← hszd] at hsz
  have HSZ := Aside0.mk hszd
  clear hszd
  refine wp_cut_T (fun w' => ∃ w4, Below w3.heap.size w3 w4 ∧ w' = w4.setCell ⟨p, 12, none⟩ (.int .i64 (IntKind.i64.wrap (bb + wrap64 sz)))) ?_
  apply Exists.intro
  refine And.intro ?_ ?_
  · have hf := fun (W : World) (hB : Below w3.heap.size w3 W) => (Below.cell hB (World.block_lt_of_cell? _ _ HH3.out.byt)).trans HH3.out.byt
    have hfr : ∀ (W : World), Below w3.heap.size w3 W → W.frozen? ⟨p, 12, none⟩ = false := fun W hB => (HH3.out.below hB).chain.head.thaw 12
    have q0 := (blk_cell HK3.out 0).trans rfl
    have q1 := (blk_cell HK3.out 1).trans rfl
    have q2 := HH3.out.byt
    have q3 := hfr w3 (Below.refl _ _)
    go_region_with (go_at_call 39; refine (hsz _ ?_).mono ?_; (first | exact Below.refl _ _ | exact below_drew1 (Below.refl _ _)); rintro e w4 ⟨rfl, hb4⟩; have qa := hf w4 hb4; have qb := hfr w4 hb4)
    all_goals exact ⟨rfl, w4, hb4, rfl⟩
  · rintro w5 ⟨w4, hb4, hw5⟩
    have H5 : Aside0 (SkM w5 O p (pre ++ post) cc (wrap64 (bb + sz))) := ⟨by
      rw [hw5, w64, wrap_add_wrap]
      exact (HH3.out.below hb4).setB _⟩
    have K5 : Aside0 (w5.heap[w.heap.size]? = some (.cells #[.bool d.f0, .slice Av d.f1.length cv] 25 (0, 0))) := ⟨by
      rw [hw5]
      exact (Sk.heap_set_ne _ _ _ _ _ (by have := HH.out.chain.head.lt; omega)).trans (blk_below HK3.out hb4)⟩
    have R5 : Aside0 (Kd.R k27 27 w5 (w.alloc (.cells #[.bool d.f0, .slice A0 d.f1.length c0] 25)).heap.size (fun _ => True) (.slice Av d.f1.length cv) d.f1) := ⟨by
      rw [hw5]
      obtain ⟨cs, hb, _⟩ := (HH3.out.below hb4).headBlk
      exact Kd.R_set (Kd.R_below HR3.out hb4) hb (k27_E 71 (by omega)) _ _⟩
    have F5 : Aside0 (Fr O w w5) := ⟨by
      rw [hw5]
      exact (Fr.of_below (below_then HB3.out HB3.out.size hb4)).set (.inl HH.out.op) _ _⟩
    clear hw5 hb4 HR3 HH3 HK3 HB3
    have hfind := find_T p (keyT d) pre post w5 H5.out.chain H5.out.rowsOk hpre hpost hh
    have hrd := (Kd.R_reads' R5.out).2.2
    obtain ⟨ad, eA, x0, x1, x2⟩ := at_T27 hrd (0 : Int) (by omega) hlz
    subst eA
    have x0 : w5.cell? ad = some (.bool (keyT d).f0) := by simpa [Addr.add, keyT] using x0
    have x1 : w5.cell? ⟨ad.block, ad.off + 1, none⟩ = some (.int .i64 (keyT d).f1) := by simpa [Addr.add, keyT] using x1
    have x2 : w5.cell? ⟨ad.block, ad.off + 2, none⟩ = some (.string (keyT d).f2) := by simpa [Addr.add, keyT] using x2
    have q0 := (blk_cell K5.out 0).trans rfl
    have q1 := (blk_cell K5.out 1).trans rfl
    have HPRE := Aside0.mk hpre
    have HPOST := Aside0.mk hpost
    have HG := Aside0.mk hh
    clear hpre hpost hh hrd
    have HLE := Aside0.mk hl
    obtain ⟨ky, hky⟩ : ∃ ky, ky = keyT d := ⟨_, rfl⟩
    rw [← hky] at x0 x1 x2 hfind HPRE HPOST
    have HKY := Aside0.mk hky
    obtain ⟨ln, hln⟩ : ∃ ln, ln = d.f1.length := ⟨_, rfl⟩
    rw [← hln] at R5 K5 q1 hlz hl
    have HLN := Aside0.mk hln
    clear hky hln
    obtain ⟨f, hfd⟩ : ∃ f : Nat → Nat, f = fun L => Sk.lst p L pre := ⟨_, rfl⟩
    have HF := Aside0.mk hfd
    have hpath : ∀ (W : World) (hB : Below w5.heap.size w5 W), Calls Try.prog 41 #[.pointer (some ⟨p, 0, none⟩), .agg (cellsT ky)] W fun e w' => e = .returned (.agg #[.pointer (some ⟨f 0, 0, none⟩), .pointer (some ⟨f 1, 0, none⟩), .pointer (some ⟨f 2, 0, none⟩), .pointer (some ⟨f 3, 0, none⟩), .pointer (some ⟨f 4, 0, none⟩), .pointer (some ⟨f 5, 0, none⟩), .pointer (some ⟨f 6, 0, none⟩), .pointer (some ⟨f 7, 0, none⟩)]) ∧ Below W.heap.size W w' := fun W hB => by
      rw [hfd]
      exact path_T p ky pre post W (H5.out.below hB).chain (H5.out.below hB).rowsOk HPRE.out HPOST.out
    clear hfd
    have HPATH := Aside0.mk hpath
    clear hpath
    cases hno : nodeOf ky post with
    | some nb =>
      obtain ⟨n, r, hpost, hnb, hnl⟩ : ∃ n r, post = n :: r ∧ n.b = nb ∧ lessT ky (keyT n.d) = false := by
        cases post with
        | nil => cases hno
        | cons n r =>
          rw [nodeOf] at hno
          split at hno
          · cases hno
          · rename_i h
            exact ⟨n, r, rfl, Option.some.inj hno, by simpa using h⟩
      subst hnb
      rw [hno] at hfind
      have HNO := Aside0.mk hno
      have HPE := Aside0.mk hpost
      clear hno
      have hfind : Calls Try.prog 40 #[.pointer (some ⟨p, 0, none⟩), .agg (cellsT ky)] w5 fun e w' => e = .returned (.pointer (some ⟨n.b, 0, none⟩)) ∧ Below w5.heap.size w5 w' := hfind
      have hm5 : n ∈ pre ++ post := by rw [hpost]; simp
      have hq : ∀ W : World, Below w5.heap.size w5 W → W.cell? ⟨w.heap.size, 0, none⟩ = some (.bool d.f0) ∧ W.cell? ⟨w.heap.size, 1, none⟩ = some (.slice (some ad) ln cv) := fun W hB =>
        ⟨(Below.cell hB (World.block_lt_of_cell? _ _ q0)).trans q0, (Below.cell hB (World.block_lt_of_cell? _ _ q1)).trans q1⟩
      have HQ := Aside0.mk hq
      clear hq HPATH HF hpost
      go_wp2_with (go_at_call 40; refine hfind.mono ?_; rintro e w6 ⟨rfl, hb6⟩; clear x0 x1 x2 q0 q1 hfind; have HB6 := Aside0.mk hb6; clear hb6)
      have H6 := Aside0.mk (H5.out.below HB6.out)
      obtain ⟨A, c, hv, hcc, hC, hln⟩ := H6.out.rowsOk n hm5
      obtain ⟨ns1, ns2, hsp⟩ := List.append_of_mem hm5
      have hn0 := (H6.out.chain.node ns1 n ns2 hsp).c0
      have hn1 := (H6.out.chain.node ns1 n ns2 hsp).c1
      rw [hv] at hn1
      have hszn := fun (W : World) (hB : Below w6.heap.size w6 W) => (size_T n.d.f0 (some A) c n.d.f1 W (Kd.C_below hC hB) hcc).mono (R' := fun e w' => e = .returned (.int .i64 (wrap64 (sizeI n.d.f1))) ∧ Below w6.heap.size w6 w') (fun e w' h => ⟨h.1, below_then hB hB.size h.2⟩)
      obtain ⟨sn, hsnd⟩ : ∃ sn, sn = sizeI n.d.f1 := ⟨_, rfl⟩
      rw [← hsnd] at hszn
      have HSN := Aside0.mk hsnd
      obtain ⟨b6, hb6d⟩ : ∃ b6, b6 = wrap64 (bb + sz) := ⟨_, rfl⟩
      rw [← hb6d] at H6
      have HBD := Aside0.mk hb6d
      clear hsnd hv hC hcc hb6d
      refine wp_cut_T (fun w' => ∃ w7, Below w6.heap.size w6 w7 ∧ w' = w7.setCell ⟨p, 12, none⟩ (.int .i64 (IntKind.i64.wrap (b6 - wrap64 sn)))) ?_
      apply Exists.intro
      refine And.intro ?_ ?_
      · have hf := fun (W : World) (hB : Below w6.heap.size w6 W) => (Below.cell hB (World.block_lt_of_cell? _ _ H6.out.byt)).trans H6.out.byt
        have hfr : ∀ (W : World), Below w6.heap.size w6 W → W.frozen? ⟨p, 12, none⟩ = false := fun W hB => (H6.out.below hB).chain.head.thaw 12
        have q2 := H6.out.byt
        have q3 := hfr w6 (Below.refl _ _)
        go_region_with (go_at_call 39; refine (hszn _ ?_).mono ?_; (first | exact Below.refl _ _ | exact below_drew1 (Below.refl _ _)); rintro e w7 ⟨rfl, hb7⟩; have qa := hf w7 hb7; have qb := hfr w7 hb7)
        all_goals exact ⟨rfl, w7, hb7, rfl⟩
      · rintro w8 ⟨w7, hb7, hw8⟩
        have hB57 : Below w5.heap.size w5 w7 := below_then HB6.out HB6.out.size hb7
        have H8 : Aside0 (SkM w8 O p (pre ++ post) cc (wrap64 (bb + sz - sn))) := ⟨by
          rw [hw8, w64, HBD.out, wrap_sub_wrap]
          exact (H6.out.below hb7).setB _⟩
        have K8 : Aside0 (w8.heap[w.heap.size]? = some (.cells #[.bool d.f0, .slice (some ad) ln cv] 25 (0, 0))) := ⟨by
          rw [hw8]
          exact (Sk.heap_set_ne _ _ _ _ _ (by have := HH.out.chain.head.lt; omega)).trans (blk_below K5.out hB57)⟩
        have R8 : Aside0 (Kd.R k27 27 w8 0 (fun k => O k ∨ w.heap.size ≤ k) (.slice (some ad) ln cv) d.f1) := ⟨by
          rw [hw8]
          obtain ⟨cs, hb, _⟩ := (H6.out.below hb7).headBlk
          exact Kd.R_lower (Kd.R_mono (Kd.R_bound (Kd.R_set (Kd.R_below R5.out hB57) hb (k27_E 71 (by omega)) _ _)) (fun k hk => .inr (Nat.le_trans (by simp) hk.2.1))) (Nat.zero_le _)⟩
        have F8 : Aside0 (Fr O w w8) := ⟨by
          rw [hw8]
          exact (F5.out.trans (Fr.of_below hB57)).set (.inl HH.out.op) _ _⟩
        clear hw8 hb7 hB57 hn0 hn1 hszn H6 HB6 H5 R5 K5 F5
        have hn8 := H8.out.chain.node ns1 n ns2 hsp
        have u0 := hn8.c0
        have u1 := hn8.c1
        have z0 := hn8.thaw 0
        have z1 := hn8.thaw 1
        have q0 := (blk_cell K8.out 0).trans rfl
        have q1 := (blk_cell K8.out 1).trans rfl
        clear hn8
        go_wp2
        go_ret
        refine ⟨rfl, (F8.out.set (.inl (HH.out.on n hm5)) _ _).set (.inl (HH.out.on n hm5)) _ _, ?_⟩
        unfold PutPost
        rw [← HKY.out, HNO.out]
        refine ⟨n, r, .slice (some ad) ln cv, HPE.out, ?_⟩
        rw [← HSZ.out, ← HSN.out]
        have H8' := H8.out
        rw [HPE.out] at H8'
        exact H8'.put (fun k hk => .inl hk) R8.out HLE.out
    | none =>
      rw [hno] at hfind
      have hfind : Calls Try.prog 40 #[.pointer (some ⟨p, 0, none⟩), .agg (cellsT ky)] w5 fun e w' => e = .returned (.pointer none) ∧ Below w5.heap.size w5 w' := hfind
      have HNO := Aside0.mk hno
      clear hno
      have hq : ∀ W : World, Below w5.heap.size w5 W → W.cell? ad = some (.bool ky.f0) ∧ W.cell? ⟨ad.block, ad.off + 1, none⟩ = some (.int .i64 ky.f1) ∧ W.cell? ⟨ad.block, ad.off + 2, none⟩ = some (.string ky.f2) ∧ W.cell? ⟨w.heap.size, 0, none⟩ = some (.bool d.f0) ∧ W.cell? ⟨w.heap.size, 1, none⟩ = some (.slice (some ad) ln cv) := fun W hB =>
        ⟨(Below.cell hB (World.block_lt_of_cell? _ _ x0)).trans x0, (Below.cell hB (World.block_lt_of_cell? _ _ x1)).trans x1, (Below.cell hB (World.block_lt_of_cell? _ _ x2)).trans x2, (Below.cell hB (World.block_lt_of_cell? _ _ q0)).trans q0, (Below.cell hB (World.block_lt_of_cell? _ _ q1)).trans q1⟩
      have HQ := Aside0.mk hq
      clear hq
      go_wp2_with (go_at_call 40; refine hfind.mono ?_; rintro e w6 ⟨rfl, hb6⟩; clear x0 x1 x2 q0 q1 hfind; obtain ⟨x0, x1, x2, q0, q1⟩ := HQ.out w6 hb6; have HB6 := Aside0.mk hb6; clear hb6)
      refine (HPATH.out w6 HB6.out).mono ?_
      rintro e w7 ⟨rfl, hb7⟩
      clear x0 x1 x2 q0 q1
      have HB7 := Aside0.mk (below_then HB6.out HB6.out.size hb7)
      obtain ⟨x0, x1, x2, q0, q1⟩ := HQ.out w7 HB7.out
      clear hb7 HB6
      have bA : Below w5.heap.size w5 (w7.alloc (.cells #[.pointer (some ⟨f 0, 0, none⟩), .pointer (some ⟨f 1, 0, none⟩), .pointer (some ⟨f 2, 0, none⟩), .pointer (some ⟨f 3, 0, none⟩), .pointer (some ⟨f 4, 0, none⟩), .pointer (some ⟨f 5, 0, none⟩), .pointer (some ⟨f 6, 0, none⟩), .pointer (some ⟨f 7, 0, none⟩)] 67)) := below_alloc HB7.out _
      obtain ⟨_, _, _, r0, r1⟩ := HQ.out _ bA
      have sA : (w7.alloc (.cells #[.pointer (some ⟨f 0, 0, none⟩), .pointer (some ⟨f 1, 0, none⟩), .pointer (some ⟨f 2, 0, none⟩), .pointer (some ⟨f 3, 0, none⟩), .pointer (some ⟨f 4, 0, none⟩), .pointer (some ⟨f 5, 0, none⟩), .pointer (some ⟨f 6, 0, none⟩), .pointer (some ⟨f 7, 0, none⟩)] 67)).heap.size = w7.heap.size + 1 := by simp
      have KA := heap_alloc_new w7 (.cells #[.pointer (some ⟨f 0, 0, none⟩), .pointer (some ⟨f 1, 0, none⟩), .pointer (some ⟨f 2, 0, none⟩), .pointer (some ⟨f 3, 0, none⟩), .pointer (some ⟨f 4, 0, none⟩), .pointer (some ⟨f 5, 0, none⟩), .pointer (some ⟨f 6, 0, none⟩), .pointer (some ⟨f 7, 0, none⟩)] 67)
      have HBA := Aside0.mk bA
      have HSA := Aside0.mk sA
      have HKA := Aside0.mk KA
      clear bA sA KA
      go_wp2_with fail
      have hb9 := heap_alloc_new (w7.alloc (.cells #[.pointer (some ⟨f 0, 0, none⟩), .pointer (some ⟨f 1, 0, none⟩), .pointer (some ⟨f 2, 0, none⟩), .pointer (some ⟨f 3, 0, none⟩), .pointer (some ⟨f 4, 0, none⟩), .pointer (some ⟨f 5, 0, none⟩), .pointer (some ⟨f 6, 0, none⟩), .pointer (some ⟨f 7, 0, none⟩)] 67)) (.cells #[.bool d.f0, .slice (some ad) ln cv, .pointer none, .pointer none, .pointer none, .pointer none, .pointer none, .pointer none, .pointer none, .pointer none] 69)
      rw [HSA.out] at hb9
      have HK9 := Aside0.mk (blk_alloc HKA.out (.cells #[.bool d.f0, .slice (some ad) ln cv, .pointer none, .pointer none, .pointer none, .pointer none, .pointer none, .pointer none, .pointer none, .pointer none] 69))
      have HB9 := Aside0.mk (below_alloc HBA.out (.cells #[.bool d.f0, .slice (some ad) ln cv, .pointer none, .pointer none, .pointer none, .pointer none, .pointer none, .pointer none, .pointer none, .pointer none] 69))
      have HZ9 := Aside0.mk (show w7.heap.size + 1 < ((w7.alloc (.cells #[.pointer (some ⟨f 0, 0, none⟩), .pointer (some ⟨f 1, 0, none⟩), .pointer (some ⟨f 2, 0, none⟩), .pointer (some ⟨f 3, 0, none⟩), .pointer (some ⟨f 4, 0, none⟩), .pointer (some ⟨f 5, 0, none⟩), .pointer (some ⟨f 6, 0, none⟩), .pointer (some ⟨f 7, 0, none⟩)] 67)).alloc (.cells #[.bool d.f0, .slice (some ad) ln cv, .pointer none, .pointer none, .pointer none, .pointer none, .pointer none, .pointer none, .pointer none, .pointer none] 69)).heap.size by simp)
      have HR9 : Aside0 (Kd.R k27 27 ((w7.alloc (.cells #[.pointer (some ⟨f 0, 0, none⟩), .pointer (some ⟨f 1, 0, none⟩), .pointer (some ⟨f 2, 0, none⟩), .pointer (some ⟨f 3, 0, none⟩), .pointer (some ⟨f 4, 0, none⟩), .pointer (some ⟨f 5, 0, none⟩), .pointer (some ⟨f 6, 0, none⟩), .pointer (some ⟨f 7, 0, none⟩)] 67)).alloc (.cells #[.bool d.f0, .slice (some ad) ln cv, .pointer none, .pointer none, .pointer none, .pointer none, .pointer none, .pointer none, .pointer none, .pointer none] 69)) 0 (fun k => O k ∨ w.heap.size ≤ k) (.slice (some ad) ln cv) d.f1) :=
        ⟨Kd.R_lower (Kd.R_mono (Kd.R_bound (Kd.R_below R5.out HB9.out)) (fun k hk => .inr (Nat.le_trans (by simp) hk.2.1))) (Nat.zero_le _)⟩
      have M9 : Aside0 (SkM ((w7.alloc (.cells #[.pointer (some ⟨f 0, 0, none⟩), .pointer (some ⟨f 1, 0, none⟩), .pointer (some ⟨f 2, 0, none⟩), .pointer (some ⟨f 3, 0, none⟩), .pointer (some ⟨f 4, 0, none⟩), .pointer (some ⟨f 5, 0, none⟩), .pointer (some ⟨f 6, 0, none⟩), .pointer (some ⟨f 7, 0, none⟩)] 67)).alloc (.cells #[.bool d.f0, .slice (some ad) ln cv, .pointer none, .pointer none, .pointer none, .pointer none, .pointer none, .pointer none, .pointer none, .pointer none] 69)) (fun k => O k ∨ w.heap.size ≤ k) p (pre ++ ⟨w7.heap.size + 1, 0, .slice (some ad) ln cv, d⟩ :: post) cc (wrap64 (bb + sz))) :=
        ⟨H5.out.fresh hb9 HB9.out (Nat.le_trans HB7.out.size (Nat.le_succ _)) (fun k hk => .inl hk) (.inr (by have := F5.out.size; have := HB7.out.size; omega)) HR9.out HLE.out⟩
      have F9 := Aside0.mk (F5.out.trans (Fr.of_below HB9.out))
      have HW7 := Aside0.mk (show w.heap.size ≤ w7.heap.size from Nat.le_trans F5.out.size HB7.out.size)
      have HP7 := Aside0.mk (show p < w7.heap.size from Nat.lt_of_lt_of_le H5.out.chain.head.lt HB7.out.size)
      clear hb9 HKA HBA HSA HB9 HR9 x0 x1 x2 q0 q1 r0 r1 HQ H5 R5 K5 F5 HPATH HB7
      generalize (w7.alloc (.cells #[.pointer (some ⟨f 0, 0, none⟩), .pointer (some ⟨f 1, 0, none⟩), .pointer (some ⟨f 2, 0, none⟩), .pointer (some ⟨f 3, 0, none⟩), .pointer (some ⟨f 4, 0, none⟩), .pointer (some ⟨f 5, 0, none⟩), .pointer (some ⟨f 6, 0, none⟩), .pointer (some ⟨f 7, 0, none⟩)] 67)).alloc (.cells #[.bool d.f0, .slice (some ad) ln cv, .pointer none, .pointer none, .pointer none, .pointer none, .pointer none, .pointer none, .pointer none, .pointer none] 69) = w9 at *
      obtain ⟨s, hs⟩ := M9.out.seed
      refine (levels_T p s w9 hs (M9.out.chain.head.thaw 10)).mono ?_
      rintro e w10 ⟨n, rfl, hn1, hn8, s', hS⟩
      have M10 := Aside0.mk ((M9.out.setS s').sim hS)
      have F10 := Aside0.mk ((F9.out.set (.inl HH.out.op) 10 (.int .u64 s')).sim hS)
      have K10 : Aside0 (w10.heap[w7.heap.size]? = some (.cells #[.pointer (some ⟨f 0, 0, none⟩), .pointer (some ⟨f 1, 0, none⟩), .pointer (some ⟨f 2, 0, none⟩), .pointer (some ⟨f 3, 0, none⟩), .pointer (some ⟨f 4, 0, none⟩), .pointer (some ⟨f 5, 0, none⟩), .pointer (some ⟨f 6, 0, none⟩), .pointer (some ⟨f 7, 0, none⟩)] 67 (0, 0))) := ⟨by rw [hS.1]; exact (Sk.heap_set_ne _ _ _ _ _ (by have := HP7.out; omega)).trans HK9.out⟩
      clear hs hS M9 F9 HK9
      go_wp2
      go_loopg [8, 65] n.toNat (fun kx _ b wr => ∃ i : Nat, b = .int .i64 i ∧ (i : Int) ≤ n ∧ n.toNat - i ≤ kx ∧ Aside0 (SkM wr (fun k => O k ∨ w.heap.size ≤ k) p (pre ++ ⟨w7.heap.size + 1, i, .slice (some ad) ln cv, d⟩ :: post) cc (wrap64 (bb + sz))) ∧ Aside0 (Fr O w wr) ∧ Aside0 (wr.heap[w7.heap.size]? = some (.cells #[.pointer (some ⟨f 0, 0, none⟩), .pointer (some ⟨f 1, 0, none⟩), .pointer (some ⟨f 2, 0, none⟩), .pointer (some ⟨f 3, 0, none⟩), .pointer (some ⟨f 4, 0, none⟩), .pointer (some ⟨f 5, 0, none⟩), .pointer (some ⟨f 6, 0, none⟩), .pointer (some ⟨f 7, 0, none⟩)] 67 (0, 0))))
      case atStart => exact ⟨0, rfl, by omega, by omega, M10, F10, K10⟩
      case round =>
        clear M10 F10 K10
        obtain ⟨i, rfl, hin, hkx, M, F, K⟩ := hrel
        by_cases hlt : (i : Int) < n
        · have hz : (0 : Int) ≤ (i : Int) := by omega
          have hz8 : (i : Int) < 8 := by omega
          have hfi : f i = Sk.lst p i pre := by rw [HF.out]
          have a1 : wr.cell? ⟨w7.heap.size, i, none⟩ = some (.pointer (some ⟨f i, 0, none⟩)) := (blk_cell K.out i).trans (arr8_at f i (by omega))
          have hlk := M.out.chain.link (u := pre) (v := ⟨w7.heap.size + 1, i, .slice (some ad) ln cv, d⟩ :: post) rfl i (by omega)
          rw [Sk.nxt_cons_miss (Nat.lt_irrefl i), ← hfi] at hlk
          have hfz := M.out.chain.thaw (u := pre) (v := ⟨w7.heap.size + 1, i, .slice (some ad) ln cv, d⟩ :: post) rfl i (2 + i)
          rw [← hfi] at hfz
          have hnl := (M.out.chain.node pre ⟨w7.heap.size + 1, i, .slice (some ad) ln cv, d⟩ post rfl).link i (by omega)
          have hnz := (M.out.chain.node pre ⟨w7.heap.size + 1, i, .slice (some ad) ln cv, d⟩ post rfl).thaw (2 + i)
          simp only [Sk.ptrAt, if_neg (Nat.lt_irrefl i)] at hnl
          have hnl : wr.cell? ⟨w7.heap.size + 1, 2 + i, none⟩ = some (.pointer none) := hnl
          have hne : f i ≠ w7.heap.size + 1 := by
            rw [hfi]
            rcases Sk.lst_mem_or (p := p) (L := i) pre with ⟨e, _⟩ | ⟨u1, m, u2, hu, hm, _, e⟩
            · rw [e]; have := HP7.out; omega
            · rw [e]; exact (Sk.nodup_mid M.out.chain.nodup).1 m (by rw [hu]; simp)
          have hne' : w7.heap.size + 1 ≠ f i := fun h => hne h.symm
          have hne1 : w7.heap.size ≠ f i := by
            rw [hfi]
            intro h
            rcases Sk.lst_mem_or (p := p) (L := i) pre with ⟨e, _⟩ | ⟨u1, m, u2, hu, hm, _, e⟩
            · rw [e] at h; have := HP7.out; omega
            · rw [e] at h
              obtain ⟨cs, hb, _⟩ := M.out.chain.node u1 m (u2 ++ ⟨w7.heap.size + 1, i, .slice (some ad) ln cv, d⟩ :: post) (by rw [hu]; simp)
              rw [← h, K.out] at hb
              injection hb with hb
              injection hb with _ hb _
              exact absurd hb (by decide)
          obtain ⟨q, hq⟩ : ∃ q, Sk.ptr (Sk.nxt i post) = .pointer q := ⟨_, rfl⟩
          rw [hq] at hlk
          have HQQ := Aside0.mk hq
          have HFI := Aside0.mk hfi
          clear hq hfi
          go_wp2
          go_region
          go_wp2
          go_roundg (n.toNat - (i + 1))
          case measure => omega
          case rel =>
            refine ⟨i + 1, by go_num, by omega, by omega, ?_, ?_, ?_⟩
            · refine ⟨?_⟩
              have G := (M.out.grow (i := i) (by omega)).sim (w1 := ((wr.setCell ⟨w7.heap.size + 1, 2 + i, none⟩ (.pointer q)).setCell ⟨f i, 2 + i, none⟩ (.pointer (some ⟨w7.heap.size + 1, 0, none⟩))).drew) (by rw [HQQ.out, ← HFI.out]; exact ⟨rfl, rfl, rfl, rfl⟩)
              exact G
            · refine ⟨((F.out.set (.inr (by have := HW7.out; omega)) _ _).set (.inl ?_) _ _).sim ⟨rfl, rfl, rfl, rfl⟩⟩
              rw [HFI.out]
              rcases Sk.lst_mem_or (p := p) (L := i) pre with ⟨e, _⟩ | ⟨u1, m, u2, hu, hm, _, e⟩
              · rw [e]; exact HH.out.op
              · rw [e]; exact HH.out.on m (by rw [hu]; simp)
            · exact ⟨(Sk.heap_set_ne _ _ _ _ _ hne1).trans ((Sk.heap_set_ne _ _ _ _ _ (by omega)).trans K.out)⟩
        · have hcc := M.out.cnt
          have hcf := M.out.chain.head.thaw 11
          go_wp2
          go_ret
          refine ⟨rfl, F.out.set (.inl HH.out.op) 11 _, ?_⟩
          unfold PutPost
          rw [← HKY.out, HNO.out]
          refine ⟨w7.heap.size + 1, i, .slice (some ad) ln cv, by omega, ?_⟩
          rw [← HSZ.out]
          exact M.out.setC _
end Go.Proofs.Ytnfliommpdjlkaa.Pr
end
section
namespace Go.Proofs.Ytnfliommpdjlkaa.Pr
open Go.RowKit Go.Proofs.Ytnfliommpdjlkaa.Brid Go.Proofs.YtnfliommpdjlkaaW.PrintWords Go.Proofs.YtnfliommpdjlkaaW.PrintLast Go.Proofs.YtnfliommpdjlkaaW.PrintMore
set_option linter.unusedVariables false
set_option linter.unusedSimpArgs false
set_option maxHeartbeats 4000000
set_option maxRecDepth 100000
theorem New_T (s : Int) (w : World) : Calls Try.prog 15 #[.int .u64 s] w fun e w' => e = .returned (.pointer (some ⟨w.heap.size, 0, none⟩)) ∧ Below w.heap.size w w' ∧ SkL w' (fun k => w.heap.size ≤ k) w.heap.size [] := by
  have H : ∀ s' : Int, Aside0 (Below w.heap.size w (w.alloc (.cells #[.bool false, .slice none 0 0, .pointer none, .pointer none, .pointer none, .pointer none, .pointer none, .pointer none, .pointer none, .pointer none, .int .u64 s', .int .i64 0, .int .i64 0] 71)) ∧ SkL (w.alloc (.cells #[.bool false, .slice none 0 0, .pointer none, .pointer none, .pointer none, .pointer none, .pointer none, .pointer none, .pointer none, .pointer none, .int .u64 s', .int .i64 0, .int .i64 0] 71)) (fun k => w.heap.size ≤ k) w.heap.size []) := by
    intro s'
    have hb := heap_alloc_new w (.cells #[.bool false, .slice none 0 0, .pointer none, .pointer none, .pointer none, .pointer none, .pointer none, .pointer none, .pointer none, .pointer none, .int .u64 s', .int .i64 0, .int .i64 0] 71)
    have hd : Sk.At (w.alloc (.cells #[.bool false, .slice none 0 0, .pointer none, .pointer none, .pointer none, .pointer none, .pointer none, .pointer none, .pointer none, .pointer none, .int .u64 s', .int .i64 0, .int .i64 0] 71)) w.heap.size 71 13 (.bool false) (.slice none 0 0) 8 ([] : List (Sk.Nd S25)) := by
      refine ⟨_, hb, rfl, by omega, rfl, rfl, fun L hL => ?_⟩
      match L, hL with
      | 0, _ => rfl
      | 1, _ => rfl
      | 2, _ => rfl
      | 3, _ => rfl
      | 4, _ => rfl
      | 5, _ => rfl
      | 6, _ => rfl
      | 7, _ => rfl
    have hch : Sk.Chain (·.f0) 69 71 (w.alloc (.cells #[.bool false, .slice none 0 0, .pointer none, .pointer none, .pointer none, .pointer none, .pointer none, .pointer none, .pointer none, .pointer none, .int .u64 s', .int .i64 0, .int .i64 0] 71)) w.heap.size ([] : List (Sk.Nd S25)) :=
      ⟨hd, fun u n v h => by simp at h, fun n hn => by simp at hn, fun n hn => by simp at hn, List.Pairwise.nil⟩
    have e0 : wrap64 (bytesI (([] : List (Sk.Nd S25)).map (·.d))) = 0 := by simp [bytesI, wrap64]
    exact ⟨below_alloc (Below.refl _ _) _, ⟨hch, fun n hn => by simp at hn, fun n hn => by simp at hn, ⟨s', (blk_cell hb 10).trans rfl⟩, (blk_cell hb 11).trans rfl, by rw [e0]; exact (blk_cell hb 12).trans rfl, Nat.le_refl _, fun n hn => by simp at hn⟩, fun n hn => by simp at hn, List.Pairwise.nil⟩
  go_enter Try.func15, Try.ntmps15
  go_wp2
  go_ret
  exact ⟨rfl, (H _).out.1, (H _).out.2⟩
theorem Put_T (p : Nat) (d : S25) (A0 : Option Addr) (c0 : Nat) (ns : List (Sk.Nd S25)) (O : Nat → Prop) (w : World) (H : SkL w O p ns) (hC : Kd.C k27 w A0 d.f1.length d.f1) (hc : d.f1.length ≤ c0) (hl : 0 < d.f1.length) (hm : d.f1.length ≤ 4398046511103) (hn : ns.length < 4611686018427387904) :
    Calls Try.prog 16 #[.pointer (some ⟨p, 0, none⟩), .agg #[.bool d.f0, .slice A0 d.f1.length c0]] w fun e w' => e = .returned (.bool true) ∧ Fr O w w' ∧ ∃ ns', SkL w' (fun k => O k ∨ w.heap.size ≤ k) p ns' ∧ ns'.map (·.d) = putV (ns.map (·.d)) d := by
  have hs : ns.Pairwise (fun a b => lessT (keyT a.d) (keyT b.d) = true) := List.pairwise_map.1 H.sorted
  have e0 := pre_post (fun n : Sk.Nd S25 => keyT n.d) (keyT d) ns
  have h1 := preOf_less (fun n : Sk.Nd S25 => keyT n.d) (keyT d) ns
  have h2 := postOf_not (fun n : Sk.Nd S25 => keyT n.d) (keyT d) ns hs
  have m1 := preOf_map (keyT d) ns
  have m2 := postOf_map (keyT d) ns
  generalize preOf (fun n : Sk.Nd S25 => keyT n.d) (keyT d) ns = pre at *
  generalize postOf (fun n : Sk.Nd S25 => keyT n.d) (keyT d) ns = post at *
  subst e0
  refine (put_T p d A0 c0 pre post O _ _ w H.m h1 h2 H.pos hC hc hl hm).mono ?_
  rintro e w' ⟨he, hF, hP⟩
  refine ⟨he, hF, ?_⟩
  have hsort := putV_sorted ((pre ++ post).map (·.d)) d H.sorted
  unfold PutPost at hP
  cases hno : nodeOf (keyT d) post with
  | none =>
    rw [hno] at hP
    obtain ⟨nb, h, rv, hpos, hM⟩ := hP
    have hpv : putV ((pre ++ post).map (·.d)) d = pre.map (·.d) ++ d :: post.map (·.d) := by
      unfold putV
      rw [← m1, ← m2]
      cases post with
      | nil => rfl
      | cons n r =>
        simp only [List.map_cons]
        rw [if_pos]
        rw [nodeOf] at hno
        split at hno
        · assumption
        · cases hno
    rw [hpv] at hsort ⊢
    have hmm : (pre ++ ⟨nb, h, rv, d⟩ :: post).map (·.d) = pre.map (·.d) ++ d :: post.map (·.d) := by simp
    refine ⟨pre ++ ⟨nb, h, rv, d⟩ :: post, ⟨?_, fun n hn => ?_, by rw [hmm]; exact hsort⟩, hmm⟩
    · rw [hmm]
      have e1 : wrap64 (((pre ++ post).length : Int) + 1) = (((pre ++ ({ b := nb, h := h, v := rv, d := d } : Sk.Nd S25) :: post).length : Nat) : Int) := by
        simp only [List.length_append, List.length_cons] at *
        unfold wrap64
        omega
      have e2 : wrap64 (wrap64 (bytesI ((pre ++ post).map (·.d))) + sizeI d.f1) = wrap64 (bytesI (pre.map (·.d) ++ d :: post.map (·.d))) := by
        rw [wrap_wrap_add, List.map_append, bytesI_app, bytesI_app, bytesI_cons]
        congr 1
        omega
      rw [← e1, ← e2]
      exact hM
    · rcases List.mem_append.1 hn with k | k
      · exact H.pos n (List.mem_append_left _ k)
      · rcases List.mem_cons.1 k with rfl | k
        · exact hpos
        · exact H.pos n (List.mem_append_right _ k)
  | some nb =>
    rw [hno] at hP
    obtain ⟨n, r, rv, rfl, hM⟩ := hP
    have hpv : putV ((pre ++ n :: r).map (·.d)) d = pre.map (·.d) ++ d :: r.map (·.d) := by
      unfold putV
      rw [← m1, ← m2]
      simp only [List.map_cons]
      rw [if_neg]
      rw [nodeOf] at hno
      split at hno
      · cases hno
      · assumption
    rw [hpv] at hsort ⊢
    have hmm : (pre ++ ({ b := n.b, h := n.h, v := rv, d := d } : Sk.Nd S25) :: r).map (·.d) = pre.map (·.d) ++ d :: r.map (·.d) := by simp
    refine ⟨pre ++ ⟨n.b, n.h, rv, d⟩ :: r, ⟨?_, fun m hm => ?_, by rw [hmm]; exact hsort⟩, hmm⟩
    · rw [hmm]
      have e1 : (((pre ++ n :: r).length : Nat) : Int) = (((pre ++ ({ b := n.b, h := n.h, v := rv, d := d } : Sk.Nd S25) :: r).length : Nat) : Int) := by simp
      have e2 : wrap64 (wrap64 (bytesI ((pre ++ n :: r).map (·.d))) + sizeI d.f1 - sizeI n.d.f1) = wrap64 (bytesI (pre.map (·.d) ++ d :: r.map (·.d))) := by
        rw [Int.add_sub_assoc, wrap_wrap_add, List.map_append, bytesI_app, bytesI_app, List.map_cons, bytesI_cons, bytesI_cons]
        congr 1
        omega
      rw [← e1, ← e2]
      exact hM
    · rcases List.mem_append.1 hm with k | k
      · exact H.pos m (List.mem_append_left _ k)
      · rcases List.mem_cons.1 k with rfl | k
        · exact H.pos n (by simp)
        · exact H.pos m (List.mem_append_right _ (List.mem_cons_of_mem _ k))
theorem Put_empty_T (p : Option Addr) (g : Bool) (A0 : Option Addr) (c0 : Nat) (w : World) : Calls Try.prog 16 #[.pointer p, .agg #[.bool g, .slice A0 0 c0]] w fun e w' => e = .returned (.bool false) ∧ Below w.heap.size w w' := by
  have hb : Below w.heap.size w (w.alloc (.cells #[.bool g, .slice A0 0 c0] 25)) := below_alloc (Below.refl _ _) _
  have HB := Aside0.mk hb
  clear hb
  cases p with
  | none =>
    go_enter Try.func16, Try.ntmps16
    go_wp2
    go_ret
    exact ⟨rfl, HB.out⟩
  | some a =>
    go_enter Try.func16, Try.ntmps16
    go_wp2
    go_ret
    exact ⟨rfl, HB.out⟩
theorem Put_nil_T (g : Bool) (A0 : Option Addr) (n c0 : Nat) (w : World) : Calls Try.prog 16 #[.pointer none, .agg #[.bool g, .slice A0 n c0]] w fun e w' => e = .returned (.bool false) ∧ Below w.heap.size w w' := by
  have hb : Below w.heap.size w (w.alloc (.cells #[.bool g, .slice A0 n c0] 25)) := below_alloc (Below.refl _ _) _
  have HB := Aside0.mk hb
  clear hb
  go_enter Try.func16, Try.ntmps16
  go_wp2
  go_ret
  exact ⟨rfl, HB.out⟩
theorem Len_T (p : Nat) (ns : List (Sk.Nd S25)) (O : Nat → Prop) (w : World) (H : SkL w O p ns) : Calls Try.prog 29 #[.pointer (some ⟨p, 0, none⟩)] w fun e w' => e = .returned (.int .i64 ns.length) ∧ w' = w := by
  have hc := H.m.cnt
  go_enter Try.func29, Try.ntmps29
  go_wp2
  go_ret
  exact ⟨rfl, rfl⟩
theorem Len_nil_T (w : World) : Calls Try.prog 29 #[.pointer none] w fun e w' => e = .returned (.int .i64 0) ∧ w' = w := by
  go_enter Try.func29, Try.ntmps29
  go_wp2
  go_ret
  exact ⟨rfl, rfl⟩
theorem Bytes_T (p : Nat) (ns : List (Sk.Nd S25)) (O : Nat → Prop) (w : World) (H : SkL w O p ns) : Calls Try.prog 30 #[.pointer (some ⟨p, 0, none⟩)] w fun e w' => e = .returned (.int .i64 (wrap64 (bytesI (ns.map (·.d))))) ∧ w' = w := by
  have hc := H.m.byt
  go_enter Try.func30, Try.ntmps30
  go_wp2
  go_ret
  exact ⟨rfl, rfl⟩
theorem Bytes_nil_T (w : World) : Calls Try.prog 30 #[.pointer none] w fun e w' => e = .returned (.int .i64 0) ∧ w' = w := by
  go_enter Try.func30, Try.ntmps30
  go_wp2
  go_ret
  exact ⟨rfl, rfl⟩
/-- the deed of a key -/
def getV (ds : List S25) (k : S27) : Option S25 := match postOf keyT k ds with | [] => none | e :: _ => if lessT k (keyT e) = true then none else some e
/-- what Get hands back -/
def GetR (o : Option S25) (w w' : World) (e : Ending) : Prop := match o with
  | none => e = .returned (.tuple #[.agg #[.bool false, .slice none 0 0], .bool false])
  | some d => ∃ v : Value, e = .returned (.tuple #[.agg #[.bool d.f0, v], .bool true]) ∧ Kd.R k27 27 w' w.heap.size (fun _ => True) v d.f1
theorem own_T (g : Bool) (A : Option Addr) (c : Nat) (l : List S27) (w : World) (h : Kd.C k27 w A l.length l) (hc : l.length ≤ c) (hm : l.length ≤ 4398046511103) :
    Calls Try.prog 43 #[.agg #[.bool g, .slice A l.length c]] w fun e w' => ∃ v : Value, e = .returned (.agg #[.bool g, v]) ∧ Kd.R k27 27 w' w.heap.size (fun _ => True) v l ∧ Below w.heap.size w w' :=
  skip_own.calls g A c l g l w h hc (by unfold skip_own.f cloneR.f; rw [if_pos hm]; rfl)
theorem Get_T (p : Nat) (k : S27) (ns : List (Sk.Nd S25)) (O : Nat → Prop) (w : World) (H : SkL w O p ns) (hm : ∀ n ∈ ns, n.d.f1.length ≤ 4398046511103) :
    Calls Try.prog 17 #[.pointer (some ⟨p, 0, none⟩), .agg (cellsT k)] w fun e w' => Below w.heap.size w w' ∧ GetR (getV (ns.map (·.d)) k) w w' e := by
  have hs : ns.Pairwise (fun a b => lessT (keyT a.d) (keyT b.d) = true) := List.pairwise_map.1 H.sorted
  have e0 := pre_post (fun n : Sk.Nd S25 => keyT n.d) k ns
  have h1 := preOf_less (fun n : Sk.Nd S25 => keyT n.d) k ns
  have h2 := postOf_not (fun n : Sk.Nd S25 => keyT n.d) k ns hs
  have m2 := postOf_map k ns
  have hgv : getV (ns.map (·.d)) k = (match (postOf (fun n : Sk.Nd S25 => keyT n.d) k ns).map (·.d) with | [] => none | e :: _ => if lessT k (keyT e) = true then none else some e) := by unfold getV; rw [← m2]
  obtain ⟨gv, hgd⟩ : ∃ gv, gv = getV (ns.map (·.d)) k := ⟨_, rfl⟩
  rw [← hgd] at hgv ⊢
  clear hgd
  generalize preOf (fun n : Sk.Nd S25 => keyT n.d) k ns = pre at *
  generalize postOf (fun n : Sk.Nd S25 => keyT n.d) k ns = post at *
  subst e0
  have b1 : Below w.heap.size w (w.alloc (.cells (cellsT k) 27)) := below_alloc (Below.refl _ _) _
  have b2 : Below w.heap.size w ((w.alloc (.cells (cellsT k) 27)).alloc (.cells #[.bool false, .slice none 0 0] 25)) := below_alloc b1 _
  have K1 := blk_alloc (heap_alloc_new w (.cells (cellsT k) 27)) (.cells #[.bool false, .slice none 0 0] 25)
  have K2 := heap_alloc_new (w.alloc (.cells (cellsT k) 27)) (.cells #[.bool false, .slice none 0 0] 25)
  rw [show (w.alloc (.cells (cellsT k) 27)).heap.size = w.heap.size + 1 by simp] at K2
  have HW := H.below b2
  have hfind := find_T p k pre post _ HW.m.chain HW.m.rowsOk h1 h2 H.pos
  have HH := Aside0.mk HW
  have HB2 := Aside0.mk b2
  have HK2 := Aside0.mk K2
  have HM := Aside0.mk hm
  clear HW H b1 b2 K1 K2 hm h1 h2 m2 hs
  cases hno : nodeOf k post with
  | none =>
    rw [hno] at hfind
    have hfind : Calls Try.prog 40 #[.pointer (some ⟨p, 0, none⟩), .agg (cellsT k)] _ fun e w' => e = .returned (.pointer none) ∧ Below _ _ w' := hfind
    have HG : gv = none := by
      rw [hgv]
      cases post with
      | nil => rfl
      | cons n r =>
        rw [nodeOf] at hno
        split at hno
        · simp only [List.map_cons]; rw [if_pos (by assumption)]
        · cases hno
    clear hgv
    subst HG
    clear hno
    go_enter Try.func17, Try.ntmps17
    go_wp2_with (go_at_call 40; refine hfind.mono ?_; rintro e w2 ⟨rfl, hb2⟩; have hK := blk_below HK2.out hb2; have q0 := (blk_cell hK 0).trans rfl; have q1 := (blk_cell hK 1).trans rfl; have f0 := blk_frozen hK 0; have f1 := blk_frozen hK 1; have HKK := Aside0.mk hK; have HB3 := Aside0.mk (below_then HB2.out HB2.out.size hb2); clear hK hb2)
    have HE := blk_set (blk_set HKK.out 0 (.bool false)) 1 (.slice none 0 0)
    refine bodyPost_ret (results_ct rfl _ _ (w.heap.size + 1) 25 _ (0, 0) _ rfl HE Try.underlying25 rfl (by kernel_rfl)) rfl ⟨below_set (below_set HB3.out (Nat.le_succ _)) (Nat.le_succ _), ?_⟩
    rfl
  | some nb =>
    obtain ⟨n, r, hpost, hnb, hnl⟩ : ∃ n r, post = n :: r ∧ n.b = nb ∧ lessT k (keyT n.d) = false := by
      cases post with
      | nil => cases hno
      | cons n r =>
        rw [nodeOf] at hno
        split at hno
        · cases hno
        · rename_i h
          exact ⟨n, r, rfl, Option.some.inj hno, by simpa using h⟩
    subst hnb
    rw [hno] at hfind
    have hfind : Calls Try.prog 40 #[.pointer (some ⟨p, 0, none⟩), .agg (cellsT k)] _ fun e w' => e = .returned (.pointer (some ⟨n.b, 0, none⟩)) ∧ Below _ _ w' := hfind
    have HG : gv = some n.d := by
      rw [hgv, hpost]
      simp only [List.map_cons]
      rw [if_neg (by rw [hnl]; exact Bool.false_ne_true)]
    clear hgv
    subst HG
    have hm5 : n ∈ pre ++ post := by rw [hpost]; simp
    have hml := HM.out n hm5
    have hrest : ∀ w2 : World, Below ((w.alloc (.cells (cellsT k) 27)).alloc (.cells #[.bool false, .slice none 0 0] 25)).heap.size ((w.alloc (.cells (cellsT k) 27)).alloc (.cells #[.bool false, .slice none 0 0] 25)) w2 →
        ∃ A c, w2.cell? ⟨n.b, 0, none⟩ = some (.bool n.d.f0) ∧ w2.cell? ⟨n.b, 1, none⟩ = some (.slice A n.d.f1.length c) ∧ (Calls Try.prog 43 #[.agg #[.bool n.d.f0, .slice A n.d.f1.length c]] w2 fun e w' => ∃ v : Value, e = .returned (.agg #[.bool n.d.f0, v]) ∧ Kd.R k27 27 w' w2.heap.size (fun _ => True) v n.d.f1 ∧ Below w2.heap.size w2 w') := by
      intro w2 hb
      have H2 := HH.out.below hb
      obtain ⟨A, c, hv, hcc, hC, hln⟩ := H2.m.rowsOk n hm5
      obtain ⟨ns1, ns2, hsp⟩ := List.append_of_mem hm5
      have hn0 := (H2.m.chain.node ns1 n ns2 hsp).c0
      have hn1 := (H2.m.chain.node ns1 n ns2 hsp).c1
      rw [hv] at hn1
      exact ⟨some A, c, hn0, hn1, own_T n.d.f0 (some A) c n.d.f1 w2 hC hcc hml⟩
    have HRE := Aside0.mk hrest
    clear hno hrest hm5 hml hnl hpost
    go_enter Try.func17, Try.ntmps17
    go_wp2_with (go_at_call 40; refine hfind.mono ?_; rintro e w2 ⟨rfl, hb2⟩; obtain ⟨A, c, x0, x1, hown⟩ := HRE.out w2 hb2; have HKK := Aside0.mk (blk_below HK2.out hb2); have HB3 := Aside0.mk (below_then HB2.out HB2.out.size hb2); clear hb2)
    refine hown.mono ?_
    rintro e w3 ⟨v, rfl, hR, hb3⟩
    obtain ⟨Av, cv, hv⟩ := Kd.R_slice hR
    subst hv
    have hK := blk_below HKK.out hb3
    have q0 := (blk_cell hK 0).trans rfl
    have q1 := (blk_cell hK 1).trans rfl
    have f0 := blk_frozen hK 0
    have f1 := blk_frozen hK 1
    have HK3 := Aside0.mk hK
    have HR3 := Aside0.mk hR
    have HB4 := Aside0.mk (below_then HB3.out HB3.out.size hb3)
    have HSZ := Aside0.mk (show w.heap.size + 2 ≤ w2.heap.size from Nat.le_trans (by simp) (show ((w.alloc (.cells (cellsT k) 27)).alloc (.cells #[.bool false, .slice none 0 0] 25)).heap.size ≤ w2.heap.size from by
      have := (Array.getElem?_eq_some_iff.1 HKK.out).1; have h2 := HB3.out.size; simp; omega))
    clear hK hR hb3 hown x0 x1
    go_wp2
    have HE := blk_set (blk_set HK3.out 0 (.bool n.d.f0)) 1 (.slice Av n.d.f1.length cv)
    refine bodyPost_ret (results_ct rfl _ _ (w.heap.size + 1) 25 _ (0, 0) _ rfl HE Try.underlying25 rfl (by kernel_rfl)) rfl ⟨below_set (below_set HB4.out (Nat.le_succ _)) (Nat.le_succ _), ?_⟩
    refine ⟨.slice Av n.d.f1.length cv, rfl, ?_⟩
    have hb5 : ∃ cs, (w3.setCell ⟨w.heap.size + 1, 0, none⟩ (.bool n.d.f0)).heap[w.heap.size + 1]? = some (.cells cs 25 (0, 0)) := ⟨_, blk_set HK3.out 0 _⟩
    exact Kd.R_lower (R_setT (R_setT HR3.out ⟨_, HK3.out⟩ (by decide) _ _) hb5 (by decide) _ _) (by have := HSZ.out; omega)
theorem Get_nil_T (k : S27) (w : World) : Calls Try.prog 17 #[.pointer none, .agg (cellsT k)] w fun e w' => Below w.heap.size w w' ∧ e = .returned (.tuple #[.agg #[.bool false, .slice none 0 0], .bool false]) := by
  have b1 : Below w.heap.size w (w.alloc (.cells (cellsT k) 27)) := below_alloc (Below.refl _ _) _
  have b2 : Below w.heap.size w ((w.alloc (.cells (cellsT k) 27)).alloc (.cells #[.bool false, .slice none 0 0] 25)) := below_alloc b1 _
  have K2 := heap_alloc_new (w.alloc (.cells (cellsT k) 27)) (.cells #[.bool false, .slice none 0 0] 25)
  rw [show (w.alloc (.cells (cellsT k) 27)).heap.size = w.heap.size + 1 by simp] at K2
  have hfind := find_nil_T k ((w.alloc (.cells (cellsT k) 27)).alloc (.cells #[.bool false, .slice none 0 0] 25))
  have HB2 := Aside0.mk b2
  have HK2 := Aside0.mk K2
  clear b1 b2 K2
  go_enter Try.func17, Try.ntmps17
  go_wp2_with (go_at_call 40; refine hfind.mono ?_; rintro e w2 ⟨rfl, hb2⟩; have hK := blk_below HK2.out hb2; have q0 := (blk_cell hK 0).trans rfl; have q1 := (blk_cell hK 1).trans rfl; have f0 := blk_frozen hK 0; have f1 := blk_frozen hK 1; have HKK := Aside0.mk hK; have HB3 := Aside0.mk (below_then HB2.out HB2.out.size hb2); clear hK hb2)
  have HE := blk_set (blk_set HKK.out 0 (.bool false)) 1 (.slice none 0 0)
  exact bodyPost_ret (results_ct rfl _ _ (w.heap.size + 1) 25 _ (0, 0) _ rfl HE Try.underlying25 rfl (by kernel_rfl)) rfl ⟨below_set (below_set HB3.out (Nat.le_succ _)) (Nat.le_succ _), rfl⟩
end Go.Proofs.Ytnfliommpdjlkaa.Pr
end
