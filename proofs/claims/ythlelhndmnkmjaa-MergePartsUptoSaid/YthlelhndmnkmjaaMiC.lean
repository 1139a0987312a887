/- the reference's Split: plain, what it makes, its walk -/
import Derived.Test.YthlelhndmnkmjaaMiA
import Derived.Shelf.AbstractIn
import Derived.Deep.RegionWith
import Derived.RegionIn
namespace Go.Proofs.Ythlelhndmnkmjaa.Pr
open Go.RowKit Go.Proofs.Ythlelhndmnkmjaa.Brid Go.Proofs.YthlelhndmnkmjaaW.PrintWords Go.Proofs.YthlelhndmnkmjaaW.PrintLast Go.Proofs.YthlelhndmnkmjaaW.PrintMore
set_option linter.unusedVariables false
set_option linter.unusedSimpArgs false
set_option maxHeartbeats 4000000
set_option maxRecDepth 100000
/-- the reference's list behind i elements -/
def refOut (l : List S41) (k i : Nat) : List (List S41) := (List.range ((i + k - 1) / k)).map (fun j => (l.drop (j * k)).take (min k (i - j * k)))
theorem refOut_len (l : List S41) (k i : Nat) : (refOut l k i).length = (i + k - 1) / k := by simp [refOut]
theorem refOut_at {l : List S41} {k i j : Nat} (h : j < (refOut l k i).length) : (refOut l k i)[j] = (l.drop (j * k)).take (min k (i - j * k)) := by simp [refOut]
theorem cnt_more {k q r : Nat} (h0 : 0 < r) (hr : r < k) : (q * k + r + k - 1) / k = q + 1 ∧ (q * k + r + 1 + k - 1) / k = q + 1 := by
  have hk : 0 < k := by omega
  constructor
  · rw [show q * k + r + k - 1 = (r - 1) + (q + 1) * k by rw [Nat.add_mul]; omega, Nat.add_mul_div_right _ _ hk, Nat.div_eq_of_lt (by omega)]; omega
  · rw [show q * k + r + 1 + k - 1 = r + (q + 1) * k by rw [Nat.add_mul]; omega, Nat.add_mul_div_right _ _ hk, Nat.div_eq_of_lt hr]; omega
theorem cnt_new {k q : Nat} (hk : 0 < k) : (q * k + k - 1) / k = q ∧ (q * k + 1 + k - 1) / k = q + 1 := by
  constructor
  · rw [show q * k + k - 1 = (k - 1) + q * k by omega, Nat.add_mul_div_right _ _ hk, Nat.div_eq_of_lt (by omega)]; omega
  · rw [show q * k + 1 + k - 1 = (q + 1) * k by rw [Nat.add_mul]; omega, Nat.mul_div_cancel _ hk]
theorem row_lt {k q j : Nat} (h : j < q) : j * k + k ≤ q * k := by
  have := Nat.mul_le_mul_right k (show j + 1 ≤ q from h)
  rw [Nat.add_mul, Nat.one_mul] at this
  exact this
theorem refOut_more {l : List S41} {k i q r : Nat} (h0 : 0 < r) (hr : r < k) (hi : i = q * k + r) (hl : i < l.length) :
    (refOut l k i).length = q + 1 ∧ refOut l k (i + 1) = (refOut l k i).set q ((refOut l k i).getD q [] ++ [l[i]]) := by
  have hlen : (refOut l k i).length = q + 1 := by rw [refOut_len, hi]; exact (cnt_more h0 hr).1
  have hlen1 : (refOut l k (i + 1)).length = q + 1 := by rw [refOut_len, hi]; exact (cnt_more h0 hr).2
  refine ⟨hlen, List.ext_getElem (by rw [List.length_set, hlen, hlen1]) fun j h1 h2 => ?_⟩
  have hj : j < q + 1 := by omega
  rw [refOut_at h1, List.getElem_set]
  split
  · rename_i hq
    subst hq
    rw [List.getD_eq_getElem?_getD, List.getElem?_eq_getElem (by omega), Option.getD_some, refOut_at (by omega)]
    rw [show min k (i + 1 - q * k) = r + 1 by omega, show min k (i - q * k) = r by omega, List.take_succ_eq_append_getElem (by rw [List.length_drop]; omega), List.getElem_drop]
    congr 2
    simp [hi]
  · rw [refOut_at (by omega)]
    have := row_lt (k := k) (show j < q by omega)
    rw [show min k (i + 1 - j * k) = k by omega, show min k (i - j * k) = k by omega]
theorem refOut_new {l : List S41} {k i q : Nat} (hk : 0 < k) (hi : i = q * k) (hl : i < l.length) : refOut l k (i + 1) = refOut l k i ++ [[l[i]]] := by
  have hlen : (refOut l k i).length = q := by rw [refOut_len, hi]; exact (cnt_new hk).1
  have hlen1 : (refOut l k (i + 1)).length = q + 1 := by rw [refOut_len, hi]; exact (cnt_new hk).2
  refine List.ext_getElem (by rw [List.length_append, hlen, hlen1]; rfl) fun j h1 h2 => ?_
  have hj : j < q + 1 := by omega
  rw [refOut_at h1]
  rcases Nat.lt_or_ge j q with h | h
  · rw [List.getElem_append_left (by omega), refOut_at (by omega)]
    have := row_lt (k := k) h
    rw [show min k (i + 1 - j * k) = k by omega, show min k (i - j * k) = k by omega]
  · have : j = q := by omega
    subst this
    rw [List.getElem_append_right (by omega), ← hi, show min k (i + 1 - i) = 1 by omega]
    have e : (l.drop i).take 1 = [l[i]] := by rw [List.drop_eq_getElem_cons hl]; rfl
    rw [e]
    simp only [List.getElem_singleton]
theorem chunkL_at (k : Nat) (l : List S41) (hk : 0 < k) : ∀ (f i : Nat), l.length ≤ f + i → (chunkL k l f i).length = (l.length - i + k - 1) / k ∧ ∀ (j : Nat) (h : j < (chunkL k l f i).length), (chunkL k l f i)[j] = (l.drop (i + j * k)).take k := by
  intro f
  induction f with
  | zero =>
    intro i h
    have e : l.length - i + k - 1 = k - 1 := by omega
    refine ⟨by rw [e, Nat.div_eq_of_lt (by omega)]; rfl, fun j h => by cases h⟩
  | succ f ih =>
    intro i h
    by_cases hi : i < l.length
    · have e : chunkL k l (f + 1) i = (l.drop i).take k :: chunkL k l f (i + k) := by rw [chunkL, if_pos hi]
      obtain ⟨h1, h2⟩ := ih (i + k) (by omega)
      refine ⟨?_, fun j hj => ?_⟩
      · rw [e, List.length_cons, h1]
        rcases Nat.lt_or_ge l.length (i + k) with hlt | hge
        · rw [show l.length - (i + k) + k - 1 = k - 1 by omega, Nat.div_eq_of_lt (by omega), show l.length - i + k - 1 = (l.length - i - 1) + k by omega, Nat.add_div_right _ hk, Nat.div_eq_of_lt (by omega)]
        · rw [show l.length - i + k - 1 = (l.length - (i + k) + k - 1) + k by omega, Nat.add_div_right _ hk]
      · simp only [e]
        cases j with
        | zero => simp
        | succ j =>
          rw [List.getElem_cons_succ, h2]
          congr 2
          rw [Nat.add_mul]; omega
    · have e : chunkL k l (f + 1) i = [] := by rw [chunkL, if_neg hi]
      rw [e]
      refine ⟨?_, fun j h => by cases h⟩
      rw [show l.length - i + k - 1 = k - 1 by omega, Nat.div_eq_of_lt (by omega)]; rfl
theorem refOut_end (l : List S41) (k : Nat) (hk : 0 < k) : refOut l k l.length = chunkL k l l.length 0 := by
  obtain ⟨h1, h2⟩ := chunkL_at k l hk l.length 0 (by omega)
  refine List.ext_getElem (by rw [refOut_len, h1]; simp) fun j hj1 hj2 => ?_
  rw [refOut_at hj1, h2 j hj2, Nat.zero_add]
  rcases Nat.le_total k (l.length - j * k) with h | h
  · rw [Nat.min_eq_left h]
  · rw [Nat.min_eq_right h, List.take_of_length_le (by rw [List.length_drop]; omega), List.take_of_length_le (by rw [List.length_drop]; omega)]
theorem refOut_zero (l : List S41) (k : Nat) (hk : 0 < k) : refOut l k 0 = [] := by
  have : (refOut l k 0).length = 0 := by rw [refOut_len, Nat.zero_add, Nat.div_eq_of_lt (by omega)]
  exact List.length_eq_zero_iff.1 this
theorem valR_put {w : World} {e b g n c i : Nat} {ok : Nat → Prop} {l : List Value} {x : Value} (h : Kd.R valK e w b ok (.slice (some ⟨g, 0, none⟩) n c) l) (hi : i < l.length) (hx : x.oneCell' = true) :
    Kd.R valK e (w.setCell ⟨g, i, none⟩ x) b ok (.slice (some ⟨g, 0, none⟩) n c) (l.set i x) ∧ w.grownBy (w.setCell ⟨g, i, none⟩ x) (some g) := by
  obtain ⟨h0, inner, ho, hr⟩ := h
  have hil : inner.length = l.length := by rw [hr.1]; show l.length * 1 = _; omega
  have hnl : n = l.length := by
    rcases ho.2 with ⟨h1, _⟩ | ⟨_, _, _, h1, _⟩
    · cases h1
    · injection h1
  subst hnl
  obtain ⟨ho1, hg1⟩ := World.ownsRow.stored ho i x
  refine ⟨⟨h0, inner.set i x, by rw [List.length_set]; exact ho1, ?_⟩, hg1⟩
  have hr' : Reps (fun (x : Value) cs => cs = [x] ∧ x.oneCell' = true) 1 l inner := hr
  have := Kd.reps_set hr' hi (x := x) (seg := [x]) ⟨rfl, hx⟩ rfl
  show Reps (fun (x : Value) cs => cs = [x] ∧ x.oneCell' = true) 1 _ _
  have e : inner.set i x = inner.take (i * 1) ++ [x] ++ inner.drop ((i + 1) * 1) := by
    rw [Nat.mul_one, Nat.mul_one, List.set_eq_take_append_cons_drop, if_pos (by omega)]
    simp
  rw [e]
  exact this
/-- a row isn't touched where a row of another type grows -/
theorem R_apart {α β : Type} {d : Kd α} {d' : Kd β} {e e' b b' : Nat} {w w2 : World} {ok ok' : Nat → Prop} {v v' : Value} {xs : List α} {ys : List β} (h : Kd.R d e w b ok v xs) (h' : Kd.R d' e' w b' ok' v' ys) (ht : ∀ q, q ∈ e :: d.E → q ≠ e') (hg : w.grownBy w2 v'.ownBlock) : Kd.R d e w2 b ok v xs := by
  cases hv : v'.ownBlock with
  | none => rw [hv] at hg; exact Kd.R_grown h hg (fun k _ => by simp)
  | some g =>
    obtain ⟨cells, hc⟩ := Kd.R_typed h' g hv
    rw [hv] at hg
    exact Kd.R_mono (Kd.R_grown (Kd.R_types h hc ht) hg (fun k hk e => by injection e with e; exact hk.2 e)) (fun k hk => hk.1)
/-- what the reference's Split has made: rows of its own, the last above B -/
structure SpS (w wr : World) (v : Value) (out : List (List S41)) : Prop where
  bel : Below w.heap.size w wr
  row : ∃ vs, Kd.R valK 25 wr w.heap.size (fun _ => True) v vs ∧ vs.length = out.length ∧ ∃ B, B ≤ wr.heap.size ∧ ∀ (j : Nat) (h1 : j < out.length) (h2 : j < vs.length), Kd.R (oldK k41 w) 41 wr w.heap.size (fun b => if j + 1 < out.length then b < B else B ≤ b) vs[j] out[j]
theorem SpS.start (w : World) : SpS w w (.slice none 0 0) [] := ⟨Below.refl _ _, [], Kd.R_nil _ _ _ _ _, rfl, 0, Nat.zero_le _, fun j h => by cases h⟩
theorem SpS.below {w wr w' : World} {v : Value} {out : List (List S41)} (h : SpS w wr v out) (hb : Below wr.heap.size wr w') : SpS w w' v out := by
  obtain ⟨vs, hR, hl, B, hB, hE⟩ := h.row
  exact ⟨below_then h.bel h.bel.size hb, vs, Kd.R_below hR hb, hl, B, Nat.le_trans hB hb.size, fun j h1 h2 => Kd.R_below (hE j h1 h2) hb⟩
theorem SpS.reads {w wr : World} {v : Value} {out : List (List S41)} (h : SpS w wr v out) : ∃ A c, v = .slice A out.length c ∧ out.length ≤ c ∧ Kd.C (Kd.slice 41 k41) wr A out.length out := by
  obtain ⟨vs, hR, hl, B, hB, hE⟩ := h.row
  obtain ⟨A, c, hv, hc, hC⟩ := Kd.R_reads hR
  rw [hl] at hv hc hC
  refine ⟨A, c, hv, hc, C_of_vals hC ⟨hl, fun i h1 h2 => ?_⟩⟩
  obtain ⟨Ai, ci, hvi, hci, hCi⟩ := Kd.R_reads (hE i h1 h2)
  exact ⟨Ai, ci, by rw [hvi], hci, oldK_C hCi h.bel⟩
theorem SpS.len {w wr : World} {v : Value} {out : List (List S41)} (h : SpS w wr v out) : ∃ A c, v = .slice A out.length c := by
  obtain ⟨A, c, hv, _, _⟩ := h.reads
  exact ⟨A, c, hv⟩
/-- one deed in a block of its own -/
theorem R_single {w wr : World} {d : S41} {A : Option Addr} {c : Nat} (hK : k41.K w d [.bool d.f0, .slice A d.f1.length c]) (hb : w.heap.size ≤ wr.heap.size) :
    Kd.R (oldK k41 w) 41 (wr.alloc (.cells #[.bool d.f0, .slice A d.f1.length c] 41)) w.heap.size (fun b => wr.heap.size ≤ b) (.slice (some ⟨wr.heap.size, 0, none⟩) 1 1) [d] := by
  refine ⟨fun k hk => ?_, [.bool d.f0, .slice A d.f1.length c], ⟨rfl, .inr ⟨wr.heap.size, 1, #[.bool d.f0, .slice A d.f1.length c], rfl, hb, heap_alloc_new wr _, Nat.le_refl _, by decide, rfl, rfl⟩⟩, ?_⟩
  · simp [Value.ownBlock] at hk
    show wr.heap.size ≤ k
    omega
  · have h := Reps.snoc (Reps.none (fun x cs => k41.K w x cs) 2) hK rfl
    exact h.imp_ (fun p c hp => hp)
theorem sp_push {w wr w3 : World} {v v1 : Value} {vs : List Value} {out : List (List S41)} {d : S41} {A : Option Addr} {c B : Nat} (hbel : Below w.heap.size w wr) (hR : Kd.R valK 25 wr w.heap.size (fun _ => True) v vs) (hl : vs.length = out.length)
    (hE : ∀ (j : Nat) (h1 : j < out.length) (h2 : j < vs.length), Kd.R (oldK k41 w) 41 wr w.heap.size (fun b => if j + 1 < out.length then b < B else B ≤ b) vs[j] out[j]) (hK : k41.K w d [.bool d.f0, .slice A d.f1.length c])
    (ho : Kd.R valK 25 w3 w.heap.size (fun _ => True) v1 (vs ++ [.slice (some ⟨wr.heap.size, 0, none⟩) 1 1])) (hb : Below w.heap.size w w3) (hg : (wr.alloc (.cells #[.bool d.f0, .slice A d.f1.length c] 41)).grownBy w3 v.ownBlock) : SpS w w3 v1 (out ++ [[d]]) := by
  have hba := below_alloc (Below.refl _ wr) (.cells #[.bool d.f0, .slice A d.f1.length c] 41)
  have hR1 := Kd.R_below hR hba
  have ht : ∀ q, q ∈ 41 :: (oldK k41 w).E → q ≠ 25 := fun q hq => by simp [oldK] at hq; omega
  refine ⟨hb, _, ho, by rw [List.length_append, List.length_append, hl]; rfl, wr.heap.size, Nat.le_trans hba.size hg.size, fun j h1 h2 => ?_⟩
  rcases Nat.lt_or_ge j out.length with hj | hj
  · have e1 : (vs ++ [Value.slice (some ⟨wr.heap.size, 0, none⟩) 1 1])[j] = vs[j]'(by omega) := List.getElem_append_left (by omega)
    have e2 : (out ++ [[d]])[j] = out[j] := List.getElem_append_left hj
    rw [e1, e2]
    refine Kd.R_mono (R_apart (Kd.R_below (Kd.R_bound (hE j hj (by omega))) hba) hR1 ht hg) (fun k hk => ?_)
    rw [if_pos (by simp; omega)]
    exact hk.2.2.1
  · have hje : j = out.length := by simp at h1; omega
    subst hje
    have e1 : (vs ++ [Value.slice (some ⟨wr.heap.size, 0, none⟩) 1 1])[out.length] = Value.slice (some ⟨wr.heap.size, 0, none⟩) 1 1 := by simp [← hl]
    have e2 : (out ++ [[d]])[out.length] = [d] := by simp
    rw [e1, e2]
    refine Kd.R_mono (R_apart (R_single hK hbel.size) hR1 ht hg) (fun k hk => ?_)
    rw [if_neg (by simp)]
    exact hk
theorem sp_grow {w wr W1 w3 : World} {v1 : Value} {vs : List Value} {out : List (List S41)} {d : S41} {g cO q B : Nat} (hbel : Below w.heap.size w wr) (hq : out.length = q + 1) (hR : Kd.R valK 25 wr w.heap.size (fun _ => True) (.slice (some ⟨g, 0, none⟩) (q + 1) cO) vs) (hl : vs.length = out.length) (hB : B ≤ wr.heap.size)
    (hE : ∀ (j : Nat) (h1 : j < out.length) (h2 : j < vs.length), Kd.R (oldK k41 w) 41 wr w.heap.size (fun b => if j + 1 < out.length then b < B else B ≤ b) vs[j] out[j]) (hw1 : Below wr.heap.size wr W1)
    (ho : Kd.R (oldK k41 w) 41 w3 w.heap.size (fun b => B ≤ b) v1 (out[q]'(by omega) ++ [d])) (hb : Below w.heap.size w w3) (hg : W1.grownBy w3 (vs[q]'(by omega)).ownBlock) :
    SpS w (w3.setCell ⟨g, q, none⟩ v1) (.slice (some ⟨g, 0, none⟩) (q + 1) cO) (out.set q (out[q]'(by omega) ++ [d])) := by
  have hq1 : q < out.length := by omega
  have hq2 : q < vs.length := by omega
  have hEq := hE q hq1 hq2
  have hone : v1.oneCell' = true := by
    obtain ⟨A, c, hv⟩ := Kd.R_slice ho
    rw [hv]; rfl
  have hR3 := R_apart (Kd.R_below hR hw1) (Kd.R_below hEq hw1) (fun k hk => by simp [valK] at hk; omega) hg
  obtain ⟨hR4, hg4⟩ := valR_put hR3 hq2 hone
  obtain ⟨cells, hcg⟩ := Kd.R_typed hR3 g rfl
  have ht : ∀ q, q ∈ 41 :: (oldK k41 w).E → q ≠ 25 := fun q hq => by simp [oldK] at hq; omega
  have hgb : w.heap.size ≤ g := Kd.R_base hR3 g rfl
  refine ⟨pw_below_grown hb (some g) hb.size hg4 (fun k hk => by injection hk with hk; omega), _, hR4, by rw [List.length_set, List.length_set, hl], B, ?_, fun j h1 h2 => ?_⟩
  · exact Nat.le_trans hB (Nat.le_trans hw1.size (Nat.le_trans hg.size hg4.size))
  · have h1' : j < out.length := by rw [List.length_set] at h1; exact h1
    have h2' : j < vs.length := by rw [List.length_set] at h2; exact h2
    rw [List.length_set]
    by_cases hj : q = j
    · subst hj
      have e1 : (vs.set q v1)[q]'h2 = v1 := by simp
      have e2 : (out.set q (out[q] ++ [d]))[q]'h1 = out[q] ++ [d] := by simp
      rw [e1, e2]
      refine Kd.R_mono (Kd.R_set ho hcg ht q v1) (fun k hk => ?_)
      rw [if_neg (by omega)]
      exact hk
    · have e1 : (vs.set q v1)[j]'h2 = vs[j] := by rw [List.getElem_set_ne hj]
      have e2 : (out.set q (out[q] ++ [d]))[j]'h1 = out[j] := by rw [List.getElem_set_ne hj]
      rw [e1, e2]
      refine Kd.R_set (Kd.R_grown (Kd.R_below (hE j h1' h2') hw1) hg (fun k hk e => ?_)) hcg ht q v1
      rw [if_pos (by omega)] at hk
      have h3 := hEq.1 k e.symm
      simp only [hq, Nat.lt_irrefl, if_false] at h3
      omega
theorem refOut_split {l : List S41} {n : Int} {k : Nat} (hk : k = max 1 (if n < 1 then l.length else n.toNat)) : refOut l k l.length = splitV l n := by
  rw [refOut_end l k (by omega)]
  unfold splitV
  rcases Nat.eq_zero_or_pos l.length with h | h
  · rw [h]; rfl
  · congr 1
    rw [hk]
    split <;> omega
theorem val_cell {w : World} {e b g n c : Nat} {ok : Nat → Prop} {vs : List Value} (h : Kd.R valK e w b ok (.slice (some ⟨g, 0, none⟩) n c) vs) (q : Nat) (hq : q < vs.length) : w.cell? ⟨g, q, none⟩ = some vs[q] := by
  obtain ⟨A, c', he, _, hC⟩ := Kd.R_reads h
  injection he with h1 _ _
  subst h1
  obtain ⟨ad, e, hr⟩ := hC.2.2 (by omega)
  cases e
  obtain ⟨cs, _, hk, hc⟩ := hr q vs[q] (List.getElem?_eq_getElem hq)
  obtain ⟨rfl, _⟩ := hk
  have := hc 0 _ rfl
  rw [add0] at this
  simpa [valK] using this
/-- what the walk wants of the state where the last list grows -/
theorem SpS.grow {w wr : World} {v : Value} {l : List S41} {k i q r : Nat} (h : SpS w wr v (refOut l k i)) (h0 : 0 < r) (hr : r < k) (hi : i = q * k + r) (hl : i < l.length) :
    ∃ g cO Aq nq cq B lst, v = .slice (some ⟨g, 0, none⟩) (q + 1) cO ∧ wr.cell? ⟨g, q, none⟩ = some (.slice Aq nq cq) ∧ (∃ cells, wr.heap[g]? = some (.cells cells 25 (0, 0))) ∧ B ≤ wr.heap.size ∧ lst.length ≤ k ∧ lst.length ≤ l.length ∧ some g ≠ (Value.slice Aq nq cq).ownBlock ∧
      Kd.R (oldK k41 w) 41 wr w.heap.size (fun b => B ≤ b) (.slice Aq nq cq) lst ∧
      (∀ (W1 w3 : World) (v1 : Value), Below wr.heap.size wr W1 → Kd.R (oldK k41 w) 41 w3 w.heap.size (fun b => B ≤ b) v1 (lst ++ [l[i]]) → Below w.heap.size w w3 → W1.grownBy w3 (Value.slice Aq nq cq).ownBlock → SpS w (w3.setCell ⟨g, q, none⟩ v1) (.slice (some ⟨g, 0, none⟩) (q + 1) cO) (refOut l k (i + 1))) := by
  obtain ⟨hlen, hnx⟩ := refOut_more h0 hr hi hl
  have hlst : ((refOut l k i)[q]'(by omega)).length ≤ k ∧ ((refOut l k i)[q]'(by omega)).length ≤ l.length := by
    rw [refOut_at, List.length_take, List.length_drop]; omega
  obtain ⟨vs, hR, hvl, B, hB, hE⟩ := h.row
  have hbel := h.bel
  rw [List.getD_eq_getElem?_getD, List.getElem?_eq_getElem (by omega), Option.getD_some] at hnx
  rw [hnx]
  have hq1 : q < (refOut l k i).length := by omega
  have hq2 : q < vs.length := by omega
  obtain ⟨g, cO, hv, hgb, hgl, cells, hc⟩ := Kd.R_form hR (by omega)
  rw [show vs.length = q + 1 by omega] at hv
  subst hv
  have hEq := hE q hq1 hq2
  have hEq' : Kd.R (oldK k41 w) 41 wr w.heap.size (fun b => B ≤ b) vs[q] (refOut l k i)[q] := Kd.R_mono hEq (fun k hk => by rw [if_neg (by omega)] at hk; exact hk)
  obtain ⟨Aq, cq, hvq⟩ := Kd.R_slice hEq'
  have hcell := val_cell hR q hq2
  refine ⟨g, cO, Aq, (refOut l k i)[q].length, cq, B, (refOut l k i)[q], rfl, by rw [← hvq]; exact hcell, ⟨cells, hc⟩, hB, hlst.1, hlst.2, ?_, by rw [← hvq]; exact hEq', fun W1 w3 v1 hw1 ho hb hg => ?_⟩
  · rw [← hvq]; exact Kd.R_ne hEq' hc (by decide)
  · rw [← hvq] at hg
    exact sp_grow hbel hlen hR hvl hB hE hw1 ho hb hg
theorem SpS.push {w wr : World} {v : Value} {l : List S41} {k i : Nat} (h : SpS w wr v (refOut l k i)) (hk : 0 < k) (hr : i % k = 0) (hl : i < l.length) :
    ∃ vs, Kd.R valK 25 wr w.heap.size (fun _ => True) v vs ∧ vs.length ≤ i ∧ (∀ (w3 : World) (v1 : Value) (A : Option Addr) (c : Nat), k41.K w l[i] [.bool l[i].f0, .slice A l[i].f1.length c] → Kd.R valK 25 w3 w.heap.size (fun _ => True) v1 (vs ++ [.slice (some ⟨wr.heap.size, 0, none⟩) 1 1]) → Below w.heap.size w w3 →
      (wr.alloc (.cells #[.bool l[i].f0, .slice A l[i].f1.length c] 41)).grownBy w3 v.ownBlock → SpS w w3 v1 (refOut l k (i + 1))) := by
  have hi : i = i / k * k := by
    have := Nat.div_add_mod i k
    rw [hr, Nat.mul_comm] at this
    omega
  rw [refOut_new hk hi hl]
  obtain ⟨vs, hR, hvl, B, hB, hE⟩ := h.row
  refine ⟨vs, hR, ?_, fun w3 v1 A c hK ho hb hg => sp_push h.bel hR hvl hE hK ho hb hg⟩
  rw [hvl, refOut_len, hi, (cnt_new hk).1, ← hi]
  exact Nat.div_le_self _ _
theorem split_case {l : List S41} {n : Int} {k i : Nat} (hk : k = max 1 (if n < 1 then l.length else n.toNat)) (hl : i < l.length) : (n < 1 ∧ (0 < i % k ↔ 0 < i)) ∨ (¬ n < 1 ∧ (0 < i % k ↔ 0 < (i : Int) % n)) := by
  by_cases h : n < 1
  · refine .inl ⟨h, ?_⟩
    rw [if_pos h] at hk
    rw [show k = l.length by omega, Nat.mod_eq_of_lt hl]
  · refine .inr ⟨h, ?_⟩
    rw [if_neg h] at hk
    have e : n = (k : Int) := by omega
    rw [e]
    omega
theorem wr2 (m : Nat) (h : m ≤ 1000000000000) : Value.int .i64 (wrap64 ((m : Int) + 1)) = .int .i64 ((m + 1 : Nat) : Int) := by
  have : wrap64 ((m : Int) + 1) = ((m + 1 : Nat) : Int) := by unfold wrap64; omega
  rw [this]
theorem wrq (q : Nat) (h : q ≤ 1048576) : wrap64 (q : Int) = (q : Int) := by unfold wrap64; omega
theorem RSplit_T (A : Option Addr) (c : Nat) (l : List S41) (n : Int) (w : World) (hC : Kd.C k41 w A l.length l) (hc : l.length ≤ c) (hn : l.length ≤ 1048576) (hn0 : -9223372036854775808 ≤ n) (hn1 : n ≤ 9223372036854775807) :
    Calls Try.prog 19 #[.slice A l.length c, .int .i64 n] w fun e w' => Below w.heap.size w w' ∧ ∃ A' c', e = .returned (.slice A' (splitV l n).length c') ∧ (splitV l n).length ≤ c' ∧ Kd.C (Kd.slice 41 k41) w' A' (splitV l n).length (splitV l n) := by
  obtain ⟨k, hk⟩ : ∃ k : Nat, k = max 1 (if n < 1 then l.length else n.toNat) := ⟨_, rfl⟩
  have hk0 : 0 < k := by omega
  have HEND := Aside0.mk (refOut_split hk)
  have HC := Aside0.mk hC
  have HK := Aside0.mk hk
  have HN := Aside0.mk hn
  have HK0 := Aside0.mk hk0
  clear hC hk hn hk0
  go_enter Try.func19, Try.ntmps19
  go_wp2
  go_loopg [5, 6] l.length (fun kx a b wr => ∃ i : Nat, b = .int .i64 i ∧ i ≤ l.length ∧ l.length - i ≤ kx ∧ Aside0 (SpS w wr a (refOut l k i)))
  case atStart => exact ⟨0, rfl, Nat.zero_le _, by omega, ⟨by rw [refOut_zero l k HK0.out]; exact SpS.start w⟩⟩
  case round =>
    obtain ⟨i, rfl, hi, hkx, HS⟩ := hrel
    by_cases hlt : i < l.length
    · have hz0 : (0 : Int) ≤ (i : Int) := by omega
      have hz1 : (i : Int) < (l.length : Int) := by omega
      obtain ⟨ad, Ar, cr, eA, x0, x1, hcr, hCr⟩ := at_T41 HC.out (i : Int) hz0 hz1
      subst eA
      rw [rdD_at l i hlt] at x0 x1 hcr hCr
      simp only [Int.toNat_natCast] at x0 x1
      have HL0 := Aside0.mk hlt
      have hKd := k41_mkK w l[i] hcr hCr
      have hcase := split_case HK.out hlt
      by_cases hr : 0 < i % k
      · obtain ⟨q, hq⟩ : ∃ q, q = i / k := ⟨_, rfl⟩
        obtain ⟨g, cO, Aq, nq, cq, B, lst, ha, y0, ⟨cells, hcb⟩, hB, hlk, hll, hne, hEq, hG⟩ := HS.out.grow (q := q) hr (Nat.mod_lt _ HK0.out) (by rw [hq]; have := Nat.div_add_mod i k; rw [Nat.mul_comm] at this; omega) hlt
        subst ha
        have hqi : q ≤ i := by rw [hq]; exact Nat.div_le_self _ _
        have hq20 : q ≤ 1048576 := by have := HN.out; omega
        have HBEL := Aside0.mk HS.out.bel
        have HEQ := Aside0.mk hEq
        have HGROW := Aside0.mk hG
        have HB := Aside0.mk hB
        have HNE := Aside0.mk hne
        have HRB := Aside0.mk hcb
        have HLST : Aside0 (lst.length ≤ 1048576) := ⟨by have := HN.out; omega⟩
        have HAD : Aside0 ((ad.add (i * 2)).block < w.heap.size) := ⟨World.block_lt_of_cell? _ _ x0⟩
        have HKD := Aside0.mk hKd
        have Y0 := Aside0.mk y0
        have Y1 := Aside0.mk (pw_cell_below HS.out.bel x0)
        have Y2 := Aside0.mk (pw_cell_below HS.out.bel x1)
        have hqz : (q : Int) < (q : Int) + 1 := by omega
        have hqz0 : (0 : Int) ≤ (q : Int) := by omega
        have hwq : wrap64 (q : Int) = (q : Int) := wrq q hq20
        clear HS hEq hG hB hlk hll hne hcb hKd x0 x1 hcr hCr hq hqi y0
        generalize l[i] = d at *
        rcases hcase with ⟨hlo, hm⟩ | ⟨hlo, hm⟩
        all_goals
          have hm1 := hm.1 hr
          clear hm hr
          go_wp2
          refine start_ (n := 18) (S := fun w' => w'.cell? ⟨g, q, none⟩ = some (.slice Aq nq cq) ∧ w'.cell? (ad.add (i * 2)) = some (.bool d.f0) ∧ w'.cell? ⟨(ad.add (i * 2)).block, (ad.add (i * 2)).off + 1, none⟩ = some (.slice Ar d.f1.length cr) ∧ Aside0 (Below w.heap.size w w')) (ds := [17]) #[false, false, false, false, false, false, false, false, false, false, false, false, false, false, false, false, false, false] (by kernel_rfl) rfl rfl ⟨(by simpa using Y0.out), (by simpa using Y1.out), (by simpa using Y2.out), ⟨below_drew1 HBEL.out⟩⟩ (fun hHeld => ?_)
          refine pure_ (i := 0) (N := some 29) (v := ?_) (a' := ?_) #[true, false, false, false, false, false, false, false, false, false, false, false, false, false, false, false, false, false] rfl rfl (by kernel_rfl) (fun _ _ _ h => h) (Or.inl ⟨by rfl, ?_⟩) ?_ ?_
          rotate_left
          · intro w'
            go_simp
            with_reducible rfl
          rotate_left
          · simp only [Act.put, List.setIfInBounds_toArray, List.set_cons_zero, List.set_cons_succ, i64_w, i32_w]
            rfl
          refine pure_ (i := 1) (N := some 30) (v := ?_) (a' := ?_) #[true, true, false, false, false, false, false, false, false, false, false, false, false, false, false, false, false, false] rfl rfl (by kernel_rfl) (fun _ _ _ h => h) (Or.inl ⟨by rfl, ?_⟩) ?_ ?_
          rotate_left
          · intro w'
            go_simp
            with_reducible rfl
          rotate_left
          · simp only [Act.put, List.setIfInBounds_toArray, List.set_cons_zero, List.set_cons_succ, i64_w, i32_w]
            rfl
          refine pure_ (i := 2) (N := some 31) (v := ?_) (a' := ?_) #[true, true, true, false, false, false, false, false, false, false, false, false, false, false, false, false, false, false] rfl rfl (by kernel_rfl) (fun _ _ _ h => h) (Or.inl ⟨by rfl, ?_⟩) ?_ ?_
          rotate_left
          · intro w'
            go_simp
            with_reducible rfl
          rotate_left
          · simp only [Act.put, List.setIfInBounds_toArray, List.set_cons_zero, List.set_cons_succ, i64_w, i32_w]
            rfl
          refine pure_ (i := 3) (N := some 32) (v := ?_) (a' := ?_) #[true, true, true, true, false, false, false, false, false, false, false, false, false, false, false, false, false, false] rfl rfl (by kernel_rfl) (fun _ _ _ h => h) (Or.inl ⟨by rfl, ?_⟩) ?_ ?_
          rotate_left
          · intro w'
            go_simp
            with_reducible rfl
          rotate_left
          · simp only [Act.put, List.setIfInBounds_toArray, List.set_cons_zero, List.set_cons_succ, i64_w, i32_w]
            rfl
          refine pure_ (i := 4) (N := some 33) (v := ?_) (a' := ?_) #[true, true, true, true, true, false, false, false, false, false, false, false, false, false, false, false, false, false] rfl rfl (by kernel_rfl) (fun _ _ _ h => h) (Or.inl ⟨by rfl, ?_⟩) ?_ ?_
          rotate_left
          · intro w'
            go_simp
            with_reducible rfl
          rotate_left
          · simp only [Act.put, List.setIfInBounds_toArray, List.set_cons_zero, List.set_cons_succ, i64_w, i32_w]
            rfl
          refine pure_ (i := 5) (N := some 34) (v := ?_) (a' := ?_) #[true, true, true, true, true, true, false, false, false, false, false, false, false, false, false, false, false, false] rfl rfl (by kernel_rfl) (fun _ _ _ h => h) (Or.inl ⟨by rfl, ?_⟩) ?_ ?_
          rotate_left
          · intro w'
            go_simp
            with_reducible rfl
          rotate_left
          · simp only [Act.put, List.setIfInBounds_toArray, List.set_cons_zero, List.set_cons_succ, i64_w, i32_w]
            rfl
          refine pure_ (i := 6) (N := some 35) (v := ?_) (a' := ?_) #[true, true, true, true, true, true, true, false, false, false, false, false, false, false, false, false, false, false] rfl rfl (by kernel_rfl) (fun _ _ _ h => h) (Or.inl ⟨by rfl, ?_⟩) ?_ ?_
          rotate_left
          · intro w'
            go_simp
            with_reducible rfl
          rotate_left
          · simp only [Act.put, List.setIfInBounds_toArray, List.set_cons_zero, List.set_cons_succ, i64_w, i32_w]
            rfl
          refine pure_ (i := 7) (N := some 36) (v := ?_) (a' := ?_) #[true, true, true, true, true, true, true, true, false, false, false, false, false, false, false, false, false, false] rfl rfl (by kernel_rfl) (fun _ _ _ h => h) (Or.inl ⟨by rfl, ?_⟩) ?_ ?_
          rotate_left
          · intro w'
            go_simp
            with_reducible rfl
          rotate_left
          · simp only [Act.put, List.setIfInBounds_toArray, List.set_cons_zero, List.set_cons_succ, i64_w, i32_w]
            rfl
          refine pure_ (i := 8) (N := some 37) (v := ?_) (a' := ?_) #[true, true, true, true, true, true, true, true, true, false, false, false, false, false, false, false, false, false] rfl rfl (by kernel_rfl) (fun _ _ _ h => h) (Or.inl ⟨by rfl, ?_⟩) ?_ ?_
          rotate_left
          · intro w'
            go_simp
            with_reducible rfl
          rotate_left
          · simp only [Act.put, List.setIfInBounds_toArray, List.set_cons_zero, List.set_cons_succ, i64_w, i32_w]
            rfl
          refine pure_ (i := 10) (N := some 39) (v := ?_) (a' := ?_) #[true, true, true, true, true, true, true, true, true, false, true, false, false, false, false, false, false, false] rfl rfl (by kernel_rfl) (fun _ _ _ h => h) (Or.inl ⟨by rfl, ?_⟩) ?_ ?_
          rotate_left
          · intro w'
            go_simp
            with_reducible rfl
          rotate_left
          · simp only [Act.put, List.setIfInBounds_toArray, List.set_cons_zero, List.set_cons_succ, i64_w, i32_w]
            rfl
          refine pure_ (i := 11) (N := some 40) (v := ?_) (a' := ?_) #[true, true, true, true, true, true, true, true, true, false, true, true, false, false, false, false, false, false] rfl rfl (by kernel_rfl) (fun _ _ _ h => h) (Or.inl ⟨by rfl, ?_⟩) ?_ ?_
          rotate_left
          · intro w'
            go_simp
            with_reducible rfl
          rotate_left
          · simp only [Act.put, List.setIfInBounds_toArray, List.set_cons_zero, List.set_cons_succ, i64_w, i32_w]
            rfl
          refine pure_ (i := 12) (N := some 41) (v := ?_) (a' := ?_) #[true, true, true, true, true, true, true, true, true, false, true, true, true, false, false, false, false, false] rfl rfl (by kernel_rfl) (fun _ _ _ h => h) (Or.inl ⟨by rfl, ?_⟩) ?_ ?_
          rotate_left
          · intro w'
            go_simp
            with_reducible rfl
          rotate_left
          · simp only [Act.put, List.setIfInBounds_toArray, List.set_cons_zero, List.set_cons_succ, i64_w, i32_w]
            rfl
          refine take_ (i := 9) (N := some 38) (v := ?_) (a' := ?_) #[true, true, true, true, true, true, true, true, true, true, true, true, true, false, false, false, false, false] rfl rfl (by kernel_rfl) (fun _ _ _ h => h) (Or.inl ⟨by rfl, ?_⟩) hHeld ?_ ?_
          rotate_left
          · rintro w' ⟨s0, s1, s2, s3⟩
            go_simp
            with_reducible rfl
          rotate_left
          · simp only [Act.put, List.setIfInBounds_toArray, List.set_cons_zero, List.set_cons_succ, i64_w, i32_w]
            rfl
          refine take_ (i := 13) (N := some 42) (v := ?_) (a' := ?_) #[true, true, true, true, true, true, true, true, true, true, true, true, true, true, false, false, false, false] rfl rfl (by kernel_rfl) (fun _ _ _ h => h) (Or.inl ⟨by rfl, ?_⟩) hHeld ?_ ?_
          rotate_left
          · rintro w' ⟨s0, s1, s2, s3⟩
            go_simp
            with_reducible rfl
          rotate_left
          · simp only [Act.put, List.setIfInBounds_toArray, List.set_cons_zero, List.set_cons_succ, i64_w, i32_w]
            rfl
          refine one_ (i := 14) (N := some 43) #[true, true, true, true, true, true, true, true, true, true, true, true, true, true, true, false, false, false] rfl rfl (by kernel_rfl) (by decide) (fun K hK => ?_)
          refine value_ (w1 := ?_) (v := ?_) (by rfl) rfl ?_ ?_
          rotate_left 2
          · go_simp
            constructor
            · rfl
            · rfl
          have HBX := Aside0.mk (heap_alloc_new wr.drew (.cells #[.bool d.f0, .slice Ar d.f1.length cr] 41))
          refine hK.out _ _ ⟨(cell_alloc1 hHeld.1), (cell_alloc1 hHeld.2.1), (cell_alloc1 hHeld.2.2.1), ⟨below_alloc hHeld.2.2.2.out _⟩⟩ (fun hHeld => ?_)
          clear hK K
          refine norm_ (a' := ?_) ?_ ?_
          rotate_left
          · show Act.put _ (some 43) _ = _
            simp only [Act.put, List.setIfInBounds_toArray, List.set_cons_zero, List.set_cons_succ, i64_w, i32_w]
            rfl
          refine one_ (i := 15) (N := some 44) #[true, true, true, true, true, true, true, true, true, true, true, true, true, true, true, true, false, false] rfl rfl (by kernel_rfl) (by decide) (fun K hK => ?_)
          have hW := Aside0.mk (below_alloc (below_drew1 (Below.refl wr.heap.size wr)) (.cells #[.bool d.f0, .slice Ar d.f1.length cr] 41))
          refine Kd.R_append_rows_step (oldK k41 w) (w0 := w) w.heap.size (by rfl) (.tmp 38) (.tmp 43) 25 41 (.agg #[(.bool false), (.slice none 0 0)]) 32 rfl Try.underlying25 info41 rfl (show 0 < 2 by decide) (Nat.zero_lt_succ 31) (.slice Aq nq cq) lst [d] _ _ _ (fun b => B ≤ b) (fun _ => False) rfl rfl ?aO ?aR (fun _ _ h => h) (fun _ h => h.elim) ?aF hHeld.2.2.2.out hHeld.2.2.2.out.size ?aL ?_
          (case aO => exact Kd.R_below HEQ.out hW.out)
          (case aR => exact old_one HBX.out HKD.out)
          (case aF => exact fun k hk => Nat.le_trans HB.out (Nat.le_trans hW.out.size hk))
          (case aL => clear hwq; have := HLST.out; omega)
          intro v1 w3 ho hb hg hat
          have HS0_ := cell_grown hg hHeld.1 HNE.out
          have HS1_ := cell_grown hg hHeld.2.1 (old_ne HEQ.out HAD.out)
          have HS2_ := cell_grown hg hHeld.2.2.1 (old_ne HEQ.out HAD.out)
          have HF3 := Aside0.mk (HGROW.out _ _ _ hW.out ho hb hg)
          have f3 : w3.frozen? ⟨g, q, none⟩ = false := blk_frozen (blk_grown (blk_below HRB.out hW.out) hg HNE.out) q
          have HB3 := Aside0.mk hb
          obtain ⟨A3, c3, hv3⟩ := Kd.R_slice ho
          rw [List.length_append, List.length_singleton] at hv3
          subst hv3
          clear ho hb hg hat
          refine hK.out _ _ ⟨HS0_, HS1_, HS2_, HB3⟩ (fun hHeld => ?_)
          clear hK K
          refine norm_ (a' := ?_) ?_ ?_
          rotate_left
          · show Act.put _ (some 44) _ = _
            simp only [Act.put, List.setIfInBounds_toArray, List.set_cons_zero, List.set_cons_succ, i64_w, i32_w]
            rfl
          refine pure_ (i := 16) (N := some 45) (v := ?_) (a' := ?_) #[true, true, true, true, true, true, true, true, true, true, true, true, true, true, true, true, true, false] rfl rfl (by kernel_rfl) (fun _ _ _ h => h) (Or.inl ⟨by rfl, ?_⟩) ?_ ?_
          rotate_left
          · intro w'
            go_simp
            with_reducible rfl
          rotate_left
          · simp only [Act.put, List.setIfInBounds_toArray, List.set_cons_zero, List.set_cons_succ, i64_w, i32_w]
            rfl
          refine last_ (i := 17) (N := none) #[true, true, true, true, true, true, true, true, true, true, true, true, true, true, true, true, true, true] rfl rfl (by kernel_rfl) (by decide) (fun K hK => ?_)
          refine skip_ (w1 := ?_) (by rfl) rfl ?_ ?_
          rotate_left
          · go_simp
            rfl
          refine hK.out _ _ ?_
          clear hK K
          refine done_ (by kernel_rfl) ?_
          clear hHeld hwq
          go_wp2
          go_roundg (l.length - (i + 1))
          case measure => omega
          case rel =>
            have hn_ := HN.out
            exact ⟨i + 1, wr2 _ (by omega), by omega, by omega, HF3⟩
      · have hr0 : i % k = 0 := by omega
        obtain ⟨vs, hR, hvi, hP⟩ := HS.out.push HK0.out hr0 hlt
        have HBEL := Aside0.mk HS.out.bel
        have HR := Aside0.mk hR
        have HP := Aside0.mk hP
        have HVI : Aside0 (vs.length ≤ 1048576) := ⟨by have := HN.out; omega⟩
        have HKD := Aside0.mk hKd
        have y1 := pw_cell_below HS.out.bel x0
        have y2 := pw_cell_below HS.out.bel x1
        clear HS hR hP hvi hKd x0 x1 hcr hCr hr0
        generalize l[i] = d at *
        rcases hcase with ⟨hlo, hm⟩ | ⟨hlo, hm⟩
        all_goals
          first
          | have hm1 : decide (0 < i) = false := decide_eq_false (fun h => hr (hm.2 h))
          | have hm1 : decide (0 < (i : Int) % n) = false := decide_eq_false (fun h => hr (hm.2 h))
          clear hm hr
          go_wp2_with ((with_reducible refine gate_builtin (b := .append) (xs := #[.tmp 46, .tmp 52]) rfl ?_); at_builtin; refine show_goal ?_)
          refine Aside0.mk ?_
          refine Kd.R_append valK (w0 := w) w.heap.size ?_ (.tmp 46) (.tmp 52) 22 25 (.slice none 0 0) 24 ?_ ?_ ?_ ?_ ?_ ?_ u5 vs (.slice (some ⟨wr.heap.size, 0, none⟩) 1 1) [.slice (some ⟨wr.heap.size, 0, none⟩) 1 1] (fun _ => True) (fun _ => False) ?_ ?_ ?_ ?_ ?_ ?_ ?_ ?_ ?_ ?_
          · rfl
          · rfl
          · exact Try.underlying22
          · exact info25
          · rfl
          · exact Nat.zero_lt_succ 0
          · exact Nat.zero_lt_succ 23
          · rfl
          · rw [show (wr.alloc (.cells #[.bool d.f0, .slice Ar d.f1.length cr] 41)).heap.size = wr.heap.size + 1 by simp]; rfl
          · exact ⟨rfl, rfl⟩
          · exact fun _ h => h.elim
          · exact fun _ _ => trivial
          · exact Kd.R_below HR.out (below_alloc (Below.refl _ _) _)
          · exact below_alloc HBEL.out _
          · exact (below_alloc HBEL.out _).size
          · have := HVI.out; omega
          intro v1 w3 hR1 hb1 hg1 hat1
          have HF3 := Aside0.mk (HP.out w3 v1 Ar cr HKD.out hR1 hb1 hg1)
          clear hR1 hb1 hg1 hat1
          go_wp2
          go_roundg (l.length - (i + 1))
          case measure => omega
          case rel =>
            have hn_ := HN.out
            exact ⟨i + 1, wr2 _ (by omega), by omega, by omega, HF3⟩
    · obtain rfl : l.length = i := by omega
      obtain ⟨A', c', ha, hc', hC'⟩ := HS.out.reads
      rw [HEND.out] at ha hc' hC'
      subst ha
      have HB := Aside0.mk HS.out.bel
      have HR := Aside0.mk (And.intro hc' hC')
      clear HS hc' hC'
      go_wp2
      go_ret
      exact ⟨HB.out, A', c', rfl, HR.out.1, HR.out.2⟩
end Go.Proofs.Ythlelhndmnkmjaa.Pr
