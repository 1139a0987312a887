/- A world of the sort's: the row lies in one block of the call's own, told by its elements; every other elder block is as it was. Closed under whatever leaves all that lies as it is ('Below'), so that a comparison's printed contract serves as it stands. (After the kit's SWK and KitK.) -/
import Derived.Shelf.SlSortCmp.KitK
namespace Go.Proofs.Ytcbgcmaioicdbaa.Stab
open Go.Shelf Go.RowKit Go.Lib Go.Sort
variable {P : Program} {α : Type} [Inhabited α] {enc : α → List Value} {k : Nat} {w0 W : World} {blk off : Nat} {dk : Array α}
/-- A world behind w, whatever it is, in which all that lies in w lies as it was. -/
structure SomeW (w : World) where
  W : World
  h : Below w.heap.size w W
instance someW_inhabited (w : World) : Inhabited (SomeW w) := ⟨⟨w, Below.refl _ w⟩⟩
theorem wp_region_quiet_below {id : Nat} {Q : Exit → Act → World → Prop} {a : Act} {w : World} {l : List Oper} (hm : P.follows .mixedOrders = true) (hB : Region.lexB .any l.toArray = true)
    (h : wpQuiet P l.toArray (fun w' => ∃ p : SomeW w, w' = p.W) (fun a' => ∀ w', (∃ p : SomeW w, w' = p.W) → Q .normal a' w') l a) : (Code.region id l.toArray true).wp P Q a w :=
  wp_region_quiet (C := fun w' => ∃ p : SomeW w, w' = p.W) hm hB ⟨⟨w.drew, (Below.refl _ w).drew⟩, rfl⟩ (by simpa using h)
theorem Calls.below_of {f : FuncId} {args : Array Value} {w : World} {p : SomeW w} {v : Value}
    (h : Calls P f args p.W fun e w' => e = .returned v ∧ Below p.W.heap.size p.W w') : Calls P f args p.W fun e w'' => e = .returned v ∧ ∃ q : SomeW w, w'' = q.W :=
  h.mono fun _ w' ⟨he, hb⟩ => ⟨he, ⟨w', p.h.trans ⟨hb.os, hb.tape, hb.output, hb.size, fun i hi => hb.block i (Nat.lt_of_lt_of_le hi p.h.size)⟩⟩, rfl⟩
structure SWB (enc : α → List Value) (k : Nat) (w0 : World) (blk off : Nat) (dk : Array α) (W : World) : Prop where
  keep : w0.grownBy W (some blk)
  shape : ∃ e cs0 cs, w0.heap[blk]? = some (.cells cs0 e (0, 0)) ∧ W.heap[blk]? = some (.cells cs e (0, 0)) ∧ cs.size = cs0.size
  holds : HoldsK enc k W blk off dk
structure RowB (enc : α → List Value) (k : Nat) : Prop where
  hk : ∀ x, (enc x).length = k
  h1 : ∀ x, ∀ v ∈ enc x, v.oneCell' = true
/-- What is asked of the comparison. -/
def CmpB (P : Program) (g : Nat) (cb : Array Value) (enc : α → List Value) (cf : α → α → Int) : Prop :=
  ∀ (x y : α) (W : World), Calls P g (#[.agg (enc x).toArray, .agg (enc y).toArray] ++ cb) W fun e w' => e = .returned (.int .i64 (cf x y)) ∧ Below W.heap.size W w'
theorem SWB.start {cs : Array Value} {e : TypeId} (hb : w0.heap[blk]? = some (.cells cs e (0, 0))) (h : HoldsK enc k w0 blk off dk) : SWB enc k w0 blk off dk w0 :=
  ⟨⟨rfl, rfl, rfl, Nat.le_refl _, fun _ _ _ => rfl⟩, ⟨e, cs, cs, hb, hb, rfl⟩, h⟩
theorem SWB.lt (h : SWB enc k w0 blk off dk W) : blk < W.heap.size := by
  obtain ⟨e, cs0, cs, _, h2, _⟩ := h.shape
  exact (Array.getElem?_eq_some_iff.1 h2).1
theorem SWB.grown {W' : World} (h : SWB enc k w0 blk off dk W) (hb : Below W.heap.size W W') : SWB enc k w0 blk off dk W' := by
  obtain ⟨e, cs0, cs, h1, h2, h3⟩ := h.shape
  have hblk := h.lt
  refine ⟨⟨hb.os.trans h.keep.os, hb.tape.trans h.keep.tape, hb.output.trans h.keep.output, Nat.le_trans h.keep.size hb.size, fun i hi hne => (hb.block i (Nat.lt_of_lt_of_le hi h.keep.size)).trans (h.keep.block i hi hne)⟩, ⟨e, cs0, cs, h1, (hb.block blk hblk).trans h2, h3⟩, ?_⟩
  intro j hj
  have := h.holds j hj
  exact ⟨(World.cell?_of_block (hb.block blk hblk)).trans this.1, (World.frozen?_of_block (hb.block blk hblk)).trans this.2⟩
theorem SWB.drew (h : SWB enc k w0 blk off dk W) : SWB enc k w0 blk off dk W.drew := h.grown (Below.refl _ W).drew
theorem SWB.load (h : SWB enc k w0 blk off dk W) (R : RowB enc k) (P : Program) (i : Nat) (hi : i < dk.size) :
    Sem.run P (loadCellsFrom ⟨blk, off + i * k, none⟩ 0 k #[]) W = .ok (enc dk[i]!).toArray W :=
  run_loadCellsFrom_list P _ _ _ k (R.hk _) (HoldsK.cells h.holds R.hk hi)
theorem SWB.ld (h : SWB enc k w0 blk off dk W) (R : RowB enc k) (P : Program) (i : Nat) (hi : i < dk.size) (p : SomeW W) :
    Sem.run P (loadCellsFrom ⟨blk, off + i * k, none⟩ 0 k #[]) p.W = .ok (enc dk[i]!).toArray p.W := (h.grown p.h).load R P i hi
theorem SWB.ld1 (h : SWB enc k w0 blk off dk W) (R : RowB enc k) (P : Program) (i : Nat) (hi : i < dk.size) :
    Sem.run P (loadCellsFrom ⟨blk, off + i * k, none⟩ 0 k #[]) W.drew = .ok (enc dk[i]!).toArray W.drew := h.drew.load R P i hi
theorem SWB.cmp {g : Nat} {cb : Array Value} {cf : α → α → Int} (_ : SWB enc k w0 blk off dk W) (hC : CmpB P g cb enc cf) (x y : α) (p : SomeW W) :
    Calls P g (#[.agg (enc x).toArray, .agg (enc y).toArray] ++ cb) p.W fun e w' => e = .returned (.int .i64 (cf x y)) ∧ Below p.W.heap.size p.W w' := hC x y p.W
theorem SWB.st1 (h : SWB enc k w0 blk off dk W) (R : RowB enc k) (P : Program) (i : Nat) (hi : i < dk.size) (y : α) :
    Sem.run P (storeCells ⟨blk, off + i * k, none⟩ (enc y) 0) W.drew = .ok () (W.drew.setCells blk (off + i * k) (enc y)) :=
  stores_of_holds P h.drew.holds (i * k) _ (by rw [R.hk, size_flatK]; exact rowK_bnd dk k i hi) (R.h1 _)
theorem SWB.st2 (h : SWB enc k w0 blk off dk W) (R : RowB enc k) (P : Program) (i j : Nat) (hi : i < dk.size) (hj : j < dk.size) (y x : α) :
    Sem.run P (storeCells ⟨blk, off + j * k, none⟩ (enc x) 0) (W.drew.setCells blk (off + i * k) (enc y)) = .ok () ((W.drew.setCells blk (off + i * k) (enc y)).setCells blk (off + j * k) (enc x)) :=
  stores_of_holds P (holds_setCells_c h.drew.holds (i * k) _ (by rw [R.hk, size_flatK]; exact rowK_bnd dk k i hi)) (j * k) _ (by rw [R.hk, size_setMany, size_flatK]; exact rowK_bnd dk k j hj) (R.h1 _)
theorem setCells_far (b : Nat) : ∀ (vs : List Value) (o : Nat) (w : World) (i : Nat), i ≠ b → (w.setCells b o vs).heap[i]? = w.heap[i]?
  | [], _, _, _, _ => rfl
  | v :: r, o, w, i, h => by rw [World.setCells, setCells_far b r (o + 1) _ i h]; exact Below.heap_setCell w _ v i h
theorem setCells_shape (b : Nat) (e : TypeId) : ∀ (vs : List Value) (o : Nat) (w : World) (cs : Array Value), w.heap[b]? = some (.cells cs e (0, 0)) → ∃ cs', (w.setCells b o vs).heap[b]? = some (.cells cs' e (0, 0)) ∧ cs'.size = cs.size
  | [], _, _, cs, h => ⟨cs, h, rfl⟩
  | v :: r, o, w, cs, h => by
    obtain ⟨cs', h1, h2⟩ := setCells_shape b e r (o + 1) _ _ (heap_setCell_same w b o cs e v h)
    exact ⟨cs', h1, by rw [h2]; simp⟩
theorem setCells_rest (b : Nat) : ∀ (vs : List Value) (o : Nat) (w : World), (w.setCells b o vs).os = w.os ∧ (w.setCells b o vs).tape = w.tape ∧ (w.setCells b o vs).output = w.output ∧ (w.setCells b o vs).heap.size = w.heap.size
  | [], _, _ => ⟨rfl, rfl, rfl, rfl⟩
  | v :: r, o, w => by
    have := setCells_rest b r (o + 1) (w.setCell ⟨b, o, none⟩ v)
    rw [World.setCells]
    have hw : (w.setCell ⟨b, o, none⟩ v).os = w.os ∧ (w.setCell ⟨b, o, none⟩ v).tape = w.tape ∧ (w.setCell ⟨b, o, none⟩ v).output = w.output ∧ (w.setCell ⟨b, o, none⟩ v).heap.size = w.heap.size := by
      refine ⟨?_, ?_, ?_, ?_⟩ <;> simp [World.setCell]
    exact ⟨this.1.trans hw.1, this.2.1.trans hw.2.1, this.2.2.1.trans hw.2.2.1, this.2.2.2.trans hw.2.2.2⟩
theorem SWB.set (h : SWB enc k w0 blk off dk W) (o : Nat) (vs : List Value) (d' : Array α) (hd : HoldsK enc k (W.setCells blk o vs) blk off d') : SWB enc k w0 blk off d' (W.setCells blk o vs) := by
  obtain ⟨e, cs0, cs, h1, h2, h3⟩ := h.shape
  obtain ⟨r1, r2, r3, r4⟩ := setCells_rest blk vs o W
  obtain ⟨cs', s1, s2⟩ := setCells_shape blk e vs o W cs h2
  exact ⟨⟨r1.trans h.keep.os, r2.trans h.keep.tape, r3.trans h.keep.output, by rw [r4]; exact h.keep.size, fun i hi hne => (setCells_far blk vs o W i (fun e => hne (by rw [e]))).trans (h.keep.block i hi hne)⟩, ⟨e, cs0, cs', h1, s1, s2.trans h3⟩, hd⟩
theorem SWB.swapped (h : SWB enc k w0 blk off dk W) (R : RowB enc k) (i j : Nat) (hi : i < dk.size) (hj : j < dk.size) :
    SWB enc k w0 blk off (swp dk i j) ((W.drew.setCells blk (off + i * k) (enc dk[j]!)).setCells blk (off + j * k) (enc dk[i]!)) := by
  have hH : Holds id W.drew blk off (flatK enc k dk) := h.drew.holds
  have a := holds_setCells_c hH (i * k) (enc dk[j]!) (by rw [R.hk, size_flatK]; exact rowK_bnd dk k i hi)
  have b := holds_setCells_c a (j * k) (enc dk[i]!) (by rw [R.hk, size_setMany, size_flatK]; exact rowK_bnd dk k j hj)
  rw [setMany_swp enc k R.hk dk i j hi hj] at b
  obtain ⟨e, cs0, cs, h1, h2, h3⟩ := h.drew.shape
  obtain ⟨r1, r2, r3, r4⟩ := setCells_rest blk (enc dk[j]!) (off + i * k) W.drew
  obtain ⟨cs', s1, s2⟩ := setCells_shape blk e (enc dk[j]!) (off + i * k) W.drew cs h2
  obtain ⟨q1, q2, q3, q4⟩ := setCells_rest blk (enc dk[i]!) (off + j * k) (W.drew.setCells blk (off + i * k) (enc dk[j]!))
  obtain ⟨cs'', t1, t2⟩ := setCells_shape blk e (enc dk[i]!) (off + j * k) _ cs' s1
  exact ⟨⟨q1.trans (r1.trans h.drew.keep.os), q2.trans (r2.trans h.drew.keep.tape), q3.trans (r3.trans h.drew.keep.output), by rw [q4, r4]; exact h.drew.keep.size,
    fun x hx hne => ((setCells_far blk _ _ _ x (fun e => hne (by rw [e]))).trans (setCells_far blk _ _ _ x (fun e => hne (by rw [e])))).trans (h.drew.keep.block x hx hne)⟩, ⟨e, cs0, cs'', h1, t1, t2.trans (s2.trans h3)⟩, b⟩
end Go.Proofs.Ytcbgcmaioicdbaa.Stab
