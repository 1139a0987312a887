/- skip: the list in memory (numbers of seat b) -/
import Derived.Test.YtnfliommpdjlkaaSkB
import Derived.Deep.RegionWith
namespace Go.Proofs.Ytnfliommpdjlkaa.Pr
open Go.RowKit Go.Proofs.Ytnfliommpdjlkaa.Brid Go.Proofs.YtnfliommpdjlkaaW.PrintWords Go.Proofs.YtnfliommpdjlkaaW.PrintLast Go.Proofs.YtnfliommpdjlkaaW.PrintMore
set_option linter.unusedVariables false
set_option linter.unusedSimpArgs false
set_option maxHeartbeats 4000000
set_option maxRecDepth 100000
/-! sizes -/
def sizeI (l : List S27) : Int := 8 + (l.map (fun v => 8 + (v.f2.size : Int))).sum
def bytesI (ds : List S25) : Int := (ds.map (fun d => sizeI d.f1)).sum
theorem wrap_wrap_add (a b : Int) : wrap64 (wrap64 a + b) = wrap64 (a + b) := by unfold wrap64; omega
theorem wrap_add_wrap (a b : Int) : wrap64 (a + wrap64 b) = wrap64 (a + b) := by unfold wrap64; omega
theorem wrap_sub_wrap (a b : Int) : wrap64 (wrap64 a - wrap64 b) = wrap64 (a - b) := by unfold wrap64; omega
theorem rdY_at (l : List S27) (n : Nat) (h : n < l.length) : rd_T27 l (n : Int) = l[n] := by
  simp [rd_T27, List.getD_eq_getElem?_getD, List.getElem?_eq_getElem h]
theorem size_tells (l : List S27) (hl : l.length ≤ 9223372036854775807) : ∀ (d k n : Nat) (a : Int), n + d = l.length → d < k →
    skip_size.l0 k (wrap64 a) l (l.length : Int) (n : Int) = some (wrap64 (a + ((l.drop n).map (fun v => 8 + (v.f2.size : Int))).sum)) := by
  intro d
  induction d with
  | zero =>
    intro k n a hn hk
    obtain ⟨k, rfl⟩ : ∃ m, k = m + 1 := ⟨k - 1, by omega⟩
    rw [skip_size.l0, if_neg (by omega), List.drop_eq_nil_of_le (by omega)]
    simp
  | succ d ih =>
    intro k n a hn hk
    obtain ⟨k, rfl⟩ : ∃ m, k = m + 1 := ⟨k - 1, by omega⟩
    have hlt : n < l.length := by omega
    have hw : wrap64 ((n : Int) + 1) = ((n + 1 : Nat) : Int) := by unfold wrap64; omega
    rw [skip_size.l0, if_pos (by omega), if_pos (by omega), if_pos (by omega), hw, rdY_at l n hlt, wrap_wrap_add, wrap_add_wrap, ih k (n + 1) _ (by omega) (by omega), List.drop_eq_getElem_cons hlt, List.map_cons, List.sum_cons, Int.add_assoc]
theorem size_is (g : Bool) (l : List S27) (hl : l.length ≤ 9223372036854775807) : skip_size.f (l.length + 1) g l = some (wrap64 (sizeI l)) := by
  have := size_tells l hl l.length (l.length + 1) 0 8 (by omega) (by omega)
  rw [List.drop_zero, show wrap64 8 = 8 by unfold wrap64; omega] at this
  unfold skip_size.f sizeI
  exact this
theorem size_T (g : Bool) (A : Option Addr) (c : Nat) (l : List S27) (w : World) (h : Kd.C k27 w A l.length l) (hc : l.length ≤ c) :
    Calls Try.prog 39 #[.agg #[.bool g, .slice A l.length c]] w fun e w' => e = .returned (.int .i64 (wrap64 (sizeI l))) ∧ Below w.heap.size w w' := by
  have := skip_size.calls (l.length + 1) g A c l _ w h hc (size_is g l h.2.1)
  exact this
/-! the list in memory: what it owns is in O; c: its count, b: its bytes -/
structure SkM (w : World) (O : Nat → Prop) (p : Nat) (ns : List (Sk.Nd S25)) (c b : Int) : Prop where
  chain : Sk.Chain (·.f0) 69 71 w p ns
  rows : ∀ n ∈ ns, Kd.R k27 27 w 0 O n.v n.d.f1
  full : ∀ n ∈ ns, 0 < n.d.f1.length
  seed : ∃ s, w.cell? ⟨p, 10, none⟩ = some (.int .u64 s)
  cnt : w.cell? ⟨p, 11, none⟩ = some (.int .i64 c)
  byt : w.cell? ⟨p, 12, none⟩ = some (.int .i64 b)
  op : O p
  on : ∀ n ∈ ns, O n.b
section
variable {w w1 : World} {O O' : Nat → Prop} {p : Nat} {ns : List (Sk.Nd S25)} {c b : Int}
theorem SkM.rowsOk (H : SkM w O p ns c b) : RowsOk w ns := by
  intro n hn
  have hl := H.full n hn
  obtain ⟨A, c, hv⟩ := Kd.R_slice (H.rows n hn)
  have hr := H.rows n hn
  rw [hv] at hr
  obtain ⟨_, hc, hC⟩ := Kd.R_reads' hr
  obtain ⟨ad, hA, _⟩ := hC.2.2 hl
  subst hA
  exact ⟨ad, c, hv, hc, hC, hl⟩
/-- what it owns has not turned -/
theorem SkM.keep (H : SkM w O p ns c b) (h : ∀ k, O k → k < w.heap.size → w1.heap[k]? = w.heap[k]?) : SkM w1 O p ns c b := by
  have hp : w1.heap[p]? = w.heap[p]? := h p H.op H.chain.head.lt
  have hc : ∀ j v, w.cell? ⟨p, j, none⟩ = some v → w1.cell? ⟨p, j, none⟩ = some v := fun j v hv => by
    unfold World.cell? at *
    simp only [hp]
    exact hv
  refine ⟨H.chain.keep hp (fun n hn => ?_), fun n hn => Kd.R_step (H.rows n hn) h, H.full, ?_, hc _ _ H.cnt, hc _ _ H.byt, H.op, H.on⟩
  · obtain ⟨a, c, hs⟩ := List.append_of_mem hn
    exact h n.b (H.on n hn) (H.chain.node a n c hs).lt
  · obtain ⟨s, hs⟩ := H.seed
    exact ⟨s, hc _ _ hs⟩
theorem SkM.below (H : SkM w O p ns c b) (h : Below w.heap.size w w1) : SkM w1 O p ns c b := H.keep (fun k _ hk => h.block k hk)
theorem SkM.mono (H : SkM w O p ns c b) (h : ∀ k, O k → O' k) : SkM w O' p ns c b :=
  ⟨H.chain, fun n hn => Kd.R_mono (H.rows n hn) h, H.full, H.seed, H.cnt, H.byt, h _ H.op, fun n hn => h _ (H.on n hn)⟩
/-- what it owns lies in w -/
theorem SkM.bound (H : SkM w O p ns c b) : SkM w (fun k => O k ∧ k < w.heap.size) p ns c b :=
  ⟨H.chain, fun n hn => Kd.R_mono (Kd.R_bound (H.rows n hn)) (fun k hk => ⟨hk.1, hk.2.2.1⟩), H.full, H.seed, H.cnt, H.byt, ⟨H.op, H.chain.head.lt⟩, fun n hn => by
    obtain ⟨a, c, hs⟩ := List.append_of_mem hn
    exact ⟨H.on n hn, (H.chain.node a n c hs).lt⟩⟩
theorem SkM.headBlk (H : SkM w O p ns c b) : ∃ cs, w.heap[p]? = some (.cells cs 71 (0, 0)) ∧ cs.size = 13 := by
  obtain ⟨cs, h1, h2, _⟩ := H.chain.head
  exact ⟨cs, h1, h2⟩
theorem k27_E (t : Nat) (ht : t ≠ 27) : ∀ q, q ∈ 27 :: k27.E → q ≠ t := by
  intro q hq
  simp [k27, Kd.iso, Kd.pair, Kd.bool, Kd.int, Kd.string, Kd.scalar] at hq
  omega
theorem cell_set_ne (w : World) (p i j : Nat) (x : Value) (h : j ≠ i) : (w.setCell ⟨p, j, none⟩ x).cell? ⟨p, i, none⟩ = w.cell? ⟨p, i, none⟩ := by
  unfold World.cell? World.setCell
  simp only [Array.getElem?_modify, if_pos]
  cases w.heap[p]? with
  | none => rfl
  | some o => cases o <;> simp [Array.getElem?_setIfInBounds, h]
theorem cell_set_eq (w : World) (p i : Nat) (x v : Value) (h : w.cell? ⟨p, i, none⟩ = some v) : (w.setCell ⟨p, i, none⟩ x).cell? ⟨p, i, none⟩ = some x := World.cell?_setCell_same' _ _ _ (by rw [h]; rfl)
theorem SkM.rowsSet (H : SkM w O p ns c b) (j : Nat) (x : Value) : ∀ n ∈ ns, Kd.R k27 27 (w.setCell ⟨p, j, none⟩ x) 0 O n.v n.d.f1 := by
  intro n hn
  obtain ⟨cs, hb, _⟩ := H.headBlk
  exact Kd.R_set (H.rows n hn) hb (k27_E 71 (by omega)) j x
theorem SkM.setB (H : SkM w O p ns c b) (b' : Int) : SkM (w.setCell ⟨p, 12, none⟩ (.int .i64 b')) O p ns c b' :=
  ⟨H.chain.setRest 12 (by omega) _, H.rowsSet 12 _, H.full, by obtain ⟨s, hs⟩ := H.seed; exact ⟨s, (cell_set_ne w p 10 12 _ (by omega)).trans hs⟩, (cell_set_ne w p 11 12 _ (by omega)).trans H.cnt, cell_set_eq w p 12 _ _ H.byt, H.op, H.on⟩
theorem SkM.setC (H : SkM w O p ns c b) (c' : Int) : SkM (w.setCell ⟨p, 11, none⟩ (.int .i64 c')) O p ns c' b :=
  ⟨H.chain.setRest 11 (by omega) _, H.rowsSet 11 _, H.full, by obtain ⟨s, hs⟩ := H.seed; exact ⟨s, (cell_set_ne w p 10 11 _ (by omega)).trans hs⟩, cell_set_eq w p 11 _ _ H.cnt, (cell_set_ne w p 12 11 _ (by omega)).trans H.byt, H.op, H.on⟩
theorem SkM.setS (H : SkM w O p ns c b) (s' : Int) : SkM (w.setCell ⟨p, 10, none⟩ (.int .u64 s')) O p ns c b := by
  obtain ⟨s, hs⟩ := H.seed
  exact ⟨H.chain.setRest 10 (by omega) _, H.rowsSet 10 _, H.full, ⟨s', cell_set_eq w p 10 _ _ hs⟩, (cell_set_ne w p 11 10 _ (by omega)).trans H.cnt, (cell_set_ne w p 12 10 _ (by omega)).trans H.byt, H.op, H.on⟩
theorem SkM.sim (H : SkM w O p ns c b) (s : Sim w1 w) : SkM w1 O p ns c b := H.keep (fun k _ _ => by rw [s.1])
/-- a list, whole -/
structure SkL (w : World) (O : Nat → Prop) (p : Nat) (ns : List (Sk.Nd S25)) : Prop where
  m : SkM w O p ns ns.length (wrap64 (bytesI (ns.map (·.d))))
  pos : ∀ n ∈ ns, 0 < n.h
  sorted : (ns.map (·.d)).Pairwise (fun a b => lessT (keyT a) (keyT b) = true)
theorem SkL.keep (H : SkL w O p ns) (h : ∀ k, O k → k < w.heap.size → w1.heap[k]? = w.heap[k]?) : SkL w1 O p ns := ⟨H.m.keep h, H.pos, H.sorted⟩
theorem SkL.below (H : SkL w O p ns) (h : Below w.heap.size w w1) : SkL w1 O p ns := ⟨H.m.below h, H.pos, H.sorted⟩
theorem SkL.mono (H : SkL w O p ns) (h : ∀ k, O k → O' k) : SkL w O' p ns := ⟨H.m.mono h, H.pos, H.sorted⟩
theorem SkL.bound (H : SkL w O p ns) : SkL w (fun k => O k ∧ k < w.heap.size) p ns := ⟨H.m.bound, H.pos, H.sorted⟩
end
/-! what is ahead of a key, and what isn't -/
theorem lessT_irrefl (a : S27) : lessT a a = false := Thy.less_irrefl _ _ _
theorem lessT_trans {a b c : S27} (h : lessT a b = true) (k : lessT b c = true) : lessT a c = true := Thy.less_trans h k
theorem notlessT_trans {a b c : S27} (h : lessT a b = false) (k : lessT b c = false) : lessT a c = false := Thy.notless_trans h k
theorem lessT_asymm {a b : S27} (h : lessT a b = true) : lessT b a = false := Thy.less_asymm h
section
variable {δ : Type} (key : δ → S27) (k : S27)
def preOf (ns : List δ) : List δ := ns.takeWhile (fun n => lessT (key n) k)
def postOf (ns : List δ) : List δ := ns.dropWhile (fun n => lessT (key n) k)
theorem pre_post (ns : List δ) : preOf key k ns ++ postOf key k ns = ns := List.takeWhile_append_dropWhile
theorem preOf_less (ns : List δ) : ∀ n ∈ preOf key k ns, lessT (key n) k = true := by
  intro n hn
  have : ∀ l : List δ, ∀ n ∈ l.takeWhile (fun n => lessT (key n) k), lessT (key n) k = true := by
    intro l
    induction l with
    | nil => intro n hn; cases hn
    | cons a l ih =>
      intro n hn
      rw [List.takeWhile_cons] at hn
      split at hn
      · rcases List.mem_cons.1 hn with rfl | hn
        · assumption
        · exact ih n hn
      · cases hn
  exact this ns n hn
theorem postOf_not (ns : List δ) (hs : ns.Pairwise (fun a b => lessT (key a) (key b) = true)) : ∀ n ∈ postOf key k ns, lessT (key n) k = false := by
  induction ns with
  | nil => intro n hn; cases hn
  | cons a l ih =>
    intro n hn
    rw [postOf, List.dropWhile_cons] at hn
    split at hn
    · exact ih (List.pairwise_cons.1 hs).2 n hn
    · rename_i ha
      have ha : lessT (key a) k = false := by simpa using ha
      rcases List.mem_cons.1 hn with rfl | hn
      · exact ha
      · cases h : lessT (key n) k with
        | false => rfl
        | true => rw [lessT_trans ((List.pairwise_cons.1 hs).1 n hn) h] at ha; cases ha
end
/-- a deed put into a list in order -/
def putV (ds : List S25) (d : S25) : List S25 :=
  preOf keyT (keyT d) ds ++ d :: (match postOf keyT (keyT d) ds with | [] => [] | e :: r => if lessT (keyT d) (keyT e) = true then e :: r else r)
theorem preOf_map (k : S27) (ns : List (Sk.Nd S25)) : (preOf (fun n => keyT n.d) k ns).map (·.d) = preOf keyT k (ns.map (·.d)) := by
  simp only [preOf, List.takeWhile_map]; rfl
theorem postOf_map (k : S27) (ns : List (Sk.Nd S25)) : (postOf (fun n => keyT n.d) k ns).map (·.d) = postOf keyT k (ns.map (·.d)) := by
  simp only [postOf, List.dropWhile_map]; rfl
theorem putV_sorted (ds : List S25) (d : S25) (hs : ds.Pairwise (fun a b => lessT (keyT a) (keyT b) = true)) : (putV ds d).Pairwise (fun a b => lessT (keyT a) (keyT b) = true) := by
  have h0 := pre_post keyT (keyT d) ds
  have h1 := preOf_less keyT (keyT d) ds
  have h2 := postOf_not keyT (keyT d) ds hs
  unfold putV
  generalize preOf keyT (keyT d) ds = u at *
  generalize postOf keyT (keyT d) ds = v at *
  subst h0
  obtain ⟨hu, hv, huv⟩ := List.pairwise_append.1 hs
  have tail : ∀ r : List S25, r.Pairwise (fun a b => lessT (keyT a) (keyT b) = true) → (∀ b ∈ r, lessT (keyT d) (keyT b) = true) → (u ++ d :: r).Pairwise (fun a b => lessT (keyT a) (keyT b) = true) := by
    intro r hr hd
    refine List.pairwise_append.2 ⟨hu, List.pairwise_cons.2 ⟨hd, hr⟩, fun a ha b hb => ?_⟩
    rcases List.mem_cons.1 hb with rfl | hb
    · exact h1 a ha
    · exact lessT_trans (h1 a ha) (hd b hb)
  cases v with
  | nil => exact tail [] List.Pairwise.nil (fun b hb => by cases hb)
  | cons e r =>
    obtain ⟨he, hr⟩ := List.pairwise_cons.1 hv
    by_cases hde : lessT (keyT d) (keyT e) = true
    · simp only [hde, if_true]
      exact tail _ hv (fun b hb => by
        rcases List.mem_cons.1 hb with rfl | hb
        · exact hde
        · exact lessT_trans hde (he b hb))
    · simp only [hde]
      refine tail r hr (fun b hb => ?_)
      cases hx : lessT (keyT d) (keyT b) with
      | true => rfl
      | false =>
        -- d is e's like
        have hed : lessT (keyT e) (keyT d) = false := h2 e (by simp)
        have := notlessT_trans hed hx
        rw [he b hb] at this; cases this
theorem bytesI_app (a b : List S25) : bytesI (a ++ b) = bytesI a + bytesI b := by simp [bytesI]
theorem bytesI_cons (a : S25) (b : List S25) : bytesI (a :: b) = sizeI a.f1 + bytesI b := by simp [bytesI]
/-- how the world may turn: what lay in w and is not in O lies as it lay -/
structure Fr (O : Nat → Prop) (w w' : World) : Prop where
  os : w'.os = w.os
  tape : w'.tape = w.tape
  output : w'.output = w.output
  size : w.heap.size ≤ w'.heap.size
  block : ∀ k, k < w.heap.size → ¬ O k → w'.heap[k]? = w.heap[k]?
theorem Fr.of_below {O : Nat → Prop} {w w' : World} (h : Below w.heap.size w w') : Fr O w w' := ⟨h.os, h.tape, h.output, h.size, fun k hk _ => h.block k hk⟩
theorem Fr.trans {O : Nat → Prop} {a b c : World} (h : Fr O a b) (k : Fr O b c) : Fr O a c := ⟨k.os.trans h.os, k.tape.trans h.tape, k.output.trans h.output, Nat.le_trans h.size k.size, fun i hi hn => (k.block i (Nat.lt_of_lt_of_le hi h.size) hn).trans (h.block i hi hn)⟩
theorem Fr.mono {O O' : Nat → Prop} {a b : World} (h : Fr O a b) (hO : ∀ k, k < a.heap.size → O k → O' k) : Fr O' a b := ⟨h.os, h.tape, h.output, h.size, fun i hi hn => h.block i hi (fun hh => hn (hO i hi hh))⟩
theorem Fr.set {O : Nat → Prop} {a b : World} (h : Fr O a b) {q : Nat} (hq : O q ∨ a.heap.size ≤ q) (j : Nat) (v : Value) : Fr O a (b.setCell ⟨q, j, none⟩ v) :=
  ⟨h.os, h.tape, h.output, by simpa [World.setCell] using h.size, fun i hi hn => by
    have hne : i ≠ q := by
      rintro rfl
      rcases hq with hq | hq
      · exact hn hq
      · omega
    exact (Sk.heap_set_ne b q j i v hne).trans (h.block i hi hn)⟩
theorem Fr.sim {O : Nat → Prop} {a b c : World} (h : Fr O a b) (s : Sim c b) : Fr O a c := ⟨s.2.1.trans h.os, s.2.2.1.trans h.tape, s.2.2.2.trans h.output, by rw [s.1]; exact h.size, fun i hi hn => by rw [s.1]; exact h.block i hi hn⟩
/-- behind a part of the code: the frame A, a world that is G -/
def CutP (A : Act) (G : World → Prop) : Exit → Act → World → Prop
  | .normal, a', w' => a' = A ∧ G w'
  | _, _, _ => False
theorem wp_cut_T {P : Program} {c : Code} {Q' : Exit → Act → World → Prop} {a : Act} {w : World} (G : World → Prop) (h : ∃ A, c.wp P (CutP A G) a w ∧ ∀ w', G w' → Q' .normal A w') : c.wp P Q' a w := by
  obtain ⟨A, h1, h2⟩ := h
  refine Code.wp_mono (fun e a' w' hh => ?_) h1
  cases e with
  | normal => obtain ⟨rfl, hG⟩ := hh; exact h2 w' hG
  | ret => exact hh.elim
  | exit id => exact hh.elim
  | goto t => exact hh.elim
  | panic c => exact hh.elim
  | outgrown => exact hh.elim
end Go.Proofs.Ytnfliommpdjlkaa.Pr
