/- Merge: plain laws for the statements over merge.Newest -/
import Derived.Test.YthlelhndmnkmjaaMhE
import Derived.Test.YthlelhndmnkmjaaPrE37
import Derived.Shelf.AbstractIn
namespace Go.Proofs.Ythlelhndmnkmjaa.Pr
open Go.RowKit Go.Proofs.Ythlelhndmnkmjaa.Brid Go.Proofs.YthlelhndmnkmjaaW.PrintWords Go.Proofs.YthlelhndmnkmjaaW.PrintLast Go.Proofs.YthlelhndmnkmjaaW.PrintMore
set_option linter.unusedVariables false
set_option linter.unusedSimpArgs false
set_option maxHeartbeats 4000000
set_option maxRecDepth 100000
theorem find_ext {xss yss : List (List S41)} (hx : ∀ l ∈ xss, OkL l) (hy : ∀ l ∈ yss, OkL l) (h : ∀ k, xss.findSome? (fun l => findV l k) = yss.findSome? (fun l => findV l k)) : nwV xss = nwV yss :=
  sorted_ext (nwV_sorted _) (nwV_sorted _) fun d => by rw [nwV_mem hx, nwV_mem hy, h]
theorem find_mem {l : List S41} (h : SortedD l) (d : S41) : findV l (keyT d) = some d ↔ d ∈ l := ⟨fun e => findV_in e, fun e => findV_mem h e⟩
theorem okL_nil : OkL [] := ⟨fun _ h => (by cases h), List.Pairwise.nil⟩
theorem nw_one {l : List S41} (h : OkL l) : nwV [l] = l :=
  sorted_ext (nwV_sorted _) h.2 fun d => by
    rw [nwV_mem (by intro x hx; rw [List.mem_singleton.1 hx]; exact h), ← find_mem h.2]
    simp [List.findSome?]
    cases findV l (keyT d) <;> simp
theorem nw_same {l : List S41} (h : OkL l) : nwV [l, l] = l := by
  rw [← nw_one h]
  conv => lhs; rw [nw_one h]
  refine find_ext ?_ ?_ fun k => ?_
  · intro x hx; simp at hx; subst hx; exact h
  · intro x hx; simp at hx; subst hx; exact h
  · simp only [List.findSome?_cons, List.findSome?_nil]
    cases findV l k <;> rfl
theorem nw_nil {l : List S41} (h : OkL l) : nwV [[], l] = l := by
  rw [← nw_one h]
  conv => lhs; rw [nw_one h]
  refine find_ext ?_ ?_ fun k => ?_
  · intro x hx; simp at hx; rcases hx with rfl | rfl
    · exact okL_nil
    · exact h
  · intro x hx; simp at hx; subst hx; exact h
  · simp only [List.findSome?_cons, List.findSome?_nil]
    rfl
theorem nw_steps {xss : List (List S41)} (h : ∀ l ∈ xss, OkL l) (i k : Nat) (hik : i ≤ k) :
    nwV (xss.take i ++ [nwV ((xss.drop i).take (k - i))] ++ xss.drop k) = nwV xss := by
  have hm : ∀ l ∈ (xss.drop i).take (k - i), OkL l := fun l hl => h l (List.drop_subset _ _ (List.take_subset _ _ hl))
  have hsp : xss = xss.take i ++ (xss.drop i).take (k - i) ++ xss.drop k := by
    have e1 : xss.drop k = (xss.drop i).drop (k - i) := by rw [List.drop_drop]; congr 1; omega
    rw [e1, List.append_assoc, List.take_append_drop, List.take_append_drop]
  refine find_ext ?_ h fun q => ?_
  · intro x hx
    rcases List.mem_append.1 hx with hx | hx
    · rcases List.mem_append.1 hx with hx | hx
      · exact h x (List.take_subset _ _ hx)
      · rw [List.mem_singleton.1 hx]; exact nwV_ok
    · exact h x (List.drop_subset _ _ hx)
  · conv => rhs; rw [hsp]
    simp only [List.findSome?_append, List.findSome?_cons, List.findSome?_nil, findV_nw q _ hm]
    cases List.findSome? (fun l => findV l q) ((xss.drop i).take (k - i)) <;> rfl
theorem steps_ok {xss : List (List S41)} (h : ∀ l ∈ xss, OkL l) (i k : Nat) : ∀ l ∈ xss.take i ++ [nwV ((xss.drop i).take (k - i))] ++ xss.drop k, OkL l := by
  intro x hx
  rcases List.mem_append.1 hx with hx | hx
  · rcases List.mem_append.1 hx with hx | hx
    · exact h x (List.take_subset _ _ hx)
    · rw [List.mem_singleton.1 hx]; exact nwV_ok
  · exact h x (List.drop_subset _ _ hx)
theorem sum_app (a b : List (List S41)) : sumLen (a ++ b) = sumLen a + sumLen b := by simp [sumLen]
theorem sum_part {xss : List (List S41)} (i m : Nat) : sumLen ((xss.drop i).take m) ≤ sumLen xss := by
  have h1 := sum_app (xss.take i) (xss.drop i)
  have h2 := sum_app ((xss.drop i).take m) ((xss.drop i).drop m)
  rw [List.take_append_drop] at h1 h2
  omega
theorem sum_one (l : List S41) : sumLen [l] = l.length := by simp [sumLen]
theorem sum_steps {xss : List (List S41)} (i k : Nat) : sumLen (xss.take i ++ [nwV ((xss.drop i).take (k - i))] ++ xss.drop k) ≤ 3 * sumLen xss := by
  have h1 := nwV_len ((xss.drop i).take (k - i))
  have h2 := sum_part (xss := xss) i (k - i)
  have h3 := sum_part (xss := xss) 0 i
  have h4 := sum_part (xss := xss) k xss.length
  rw [List.drop_zero] at h3
  rw [List.take_of_length_le (by rw [List.length_drop]; omega)] at h4
  rw [sum_app, sum_app, sum_one]
  omega
theorem liveV_mem (d : S41) (l : List S41) : d ∈ liveV l ↔ d ∈ l ∧ d.f0 = false := by
  simp [liveV]
theorem live_sub (l : List S41) : (liveV l).Sublist l := by rw [liveV]; exact List.filter_sublist
theorem live_ok {l : List S41} (h : OkL l) : OkL (liveV l) := ⟨fun d hd => h.1 d ((live_sub l).mem hd), List.Pairwise.sublist (live_sub l) h.2⟩
theorem gone_ok {xs : List (List S41)} {l : List S41} (h : ∀ x ∈ xs ++ [l], OkL x) : ∀ x ∈ xs ++ [liveV l], OkL x := by
  intro x hx
  rcases List.mem_append.1 hx with hx | hx
  · exact h x (List.mem_append_left _ hx)
  · rw [List.mem_singleton.1 hx]; exact live_ok (h l (by simp))
theorem nw_gone {xs : List (List S41)} {l : List S41} (h : ∀ x ∈ xs ++ [l], OkL x) : liveV (nwV (xs ++ [l])) = liveV (nwV (xs ++ [liveV l])) := by
  have hl := h l (by simp)
  refine sorted_ext (List.Pairwise.sublist (live_sub _) (nwV_sorted _)) (List.Pairwise.sublist (live_sub _) (nwV_sorted _)) fun d => ?_
  rw [liveV_mem, liveV_mem, nwV_mem h, nwV_mem (gone_ok h)]
  simp only [List.findSome?_append]
  refine ⟨fun ⟨h1, h2⟩ => ⟨?_, h2⟩, fun ⟨h1, h2⟩ => ⟨?_, h2⟩⟩
  · cases hq : List.findSome? (fun l => findV l (keyT d)) xs with
    | some e => rw [hq] at h1; simpa using h1
    | none =>
      rw [hq] at h1
      simp only [Option.none_or, List.findSome?_cons, List.findSome?_nil] at h1 ⊢
      have h3 : findV l (keyT d) = some d := by
        cases hh : findV l (keyT d) with
        | none => rw [hh] at h1; exact absurd h1 (by simp)
        | some e => rw [hh] at h1; exact h1
      rw [findV_mem (live_ok hl).2 ((liveV_mem _ _).2 ⟨findV_in h3, h2⟩)]
  · cases hq : List.findSome? (fun l => findV l (keyT d)) xs with
    | some e => rw [hq] at h1; simpa using h1
    | none =>
      rw [hq] at h1
      simp only [Option.none_or, List.findSome?_cons, List.findSome?_nil] at h1 ⊢
      have h3 : findV (liveV l) (keyT d) = some d := by
        cases hh : findV (liveV l) (keyT d) with
        | none => rw [hh] at h1; exact absurd h1 (by simp)
        | some e => rw [hh] at h1; exact h1
      rw [findV_mem hl.2 (((liveV_mem _ _).1 (findV_in h3)).1)]
/-- has a list a key -/
def hasV (l : List S41) (k : S37) : Bool := l.any (fun d => eqK (keyT d) k)
theorem hasV_iff {l : List S41} {k : S37} : hasV l k = true ↔ ∃ d ∈ l, eqK (keyT d) k = true := by simp [hasV]
theorem order_one {xss : List (List S41)} (h : ∀ l ∈ xss, OkL l) {l : List S41} (hl : l ∈ xss) {d : S41} (hd : d ∈ l) : hasV (nwV xss) (keyT d) = true := by
  have h1 : findV l (keyT d) = some d := findV_mem (h l hl).2 hd
  have h2 : (xss.findSome? (fun l => findV l (keyT d))).isSome = true := by
    rw [List.findSome?_isSome_iff]
    exact ⟨l, hl, by rw [h1]; rfl⟩
  obtain ⟨e, he⟩ := Option.isSome_iff_exists.1 h2
  rw [← findV_nw _ _ h] at he
  exact hasV_iff.2 ⟨e, findV_in he, findV_key he⟩
theorem order_two {xss : List (List S41)} (h : ∀ l ∈ xss, OkL l) {d : S41} (hd : d ∈ nwV xss) : ∃ l ∈ xss, hasV l (keyT d) = true := by
  have h1 := (nwV_mem h d).1 hd
  obtain ⟨l1, a, l2, he, hf, _⟩ := List.findSome?_eq_some_iff.1 h1
  exact ⟨a, by rw [he]; simp, hasV_iff.2 ⟨d, findV_in hf, eqK_refl _⟩⟩
theorem okL_two {l : List S41} (h : OkL l) : ∀ x ∈ [[], l], OkL x := by
  intro x hx
  rcases List.mem_cons.1 hx with hx | hx
  · rw [hx]; exact okL_nil
  · rw [List.mem_singleton.1 hx]; exact h
theorem C_one {w : World} {g : Nat} {x : List S41} {u : Value} (h : w.heap[g]? = some (.cells #[u] 25 (0, 0))) (hx : (Kd.slice 41 k41).K w x [u]) : Kd.C (Kd.slice 41 k41) w (some ⟨g, 0, none⟩) [x].length [x] := by
  refine ⟨rfl, by simp, fun _ => ⟨_, rfl, fun j p hj => ?_⟩⟩
  rcases j with _ | j
  · simp at hj
    subst hj
    refine ⟨[u], rfl, hx, fun i q hu => ?_⟩
    rw [add0, blk_cell h]
    rcases i with _ | i
    · simpa using hu
    · simp at hu
  · simp at hj
/-- the lists that MergeOne gives -/
theorem New_one (A : Option Addr) (c : Nat) (l : List S41) (w w1 : World) (hb : Below w.heap.size w w1) (hC : Kd.C k41 w A l.length l) (hc : l.length ≤ c) (hn : l.length ≤ 1099511627776) :
    Calls Try.prog 15 #[.slice (some ⟨w1.heap.size, 0, none⟩) 1 1] (w1.alloc (.cells #[.slice A l.length c] 25)) fun e w' => NewPost [l] (w1.alloc (.cells #[.slice A l.length c] 25)) e w' :=
  Newest_T (some ⟨w1.heap.size, 0, none⟩) 1 [l] _ (C_one (heap_alloc_new w1 _) ⟨A, c, rfl, hc, Kd.C_below hC (below_alloc hb _)⟩) (Nat.le_refl _) (by simp) (by rw [sum_one]; omega)
theorem New_same (A : Option Addr) (c : Nat) (l : List S41) (w w1 : World) (hb : Below w.heap.size w w1) (hC : Kd.C k41 w A l.length l) (hc : l.length ≤ c) (hn : l.length ≤ 1099511627) :
    Calls Try.prog 15 #[.slice (some ⟨w1.heap.size, 0, none⟩) 2 2] (w1.alloc (.cells #[.slice A l.length c, .slice A l.length c] 25)) fun e w' => NewPost [l, l] (w1.alloc (.cells #[.slice A l.length c, .slice A l.length c] 25)) e w' :=
  Newest_T (some ⟨w1.heap.size, 0, none⟩) 2 [l, l] _ (CC_two (heap_alloc_new w1 _) ⟨A, c, rfl, hc, Kd.C_below hC (below_alloc hb _)⟩ ⟨A, c, rfl, hc, Kd.C_below hC (below_alloc hb _)⟩) (Nat.le_refl _) (by simp) (by rw [show [l, l] = [l] ++ [l] from rfl, sum_app, sum_one]; omega)
theorem New_nil (A : Option Addr) (c : Nat) (l : List S41) (w w1 : World) (hb : Below w.heap.size w w1) (hC : Kd.C k41 w A l.length l) (hc : l.length ≤ c) (hn : l.length ≤ 1099511627) :
    Calls Try.prog 15 #[.slice (some ⟨w1.heap.size, 0, none⟩) 2 2] (w1.alloc (.cells #[.slice none 0 0, .slice A l.length c] 25)) fun e w' => NewPost [[], l] (w1.alloc (.cells #[.slice none 0 0, .slice A l.length c] 25)) e w' :=
  Newest_T (some ⟨w1.heap.size, 0, none⟩) 2 [[], l] _ (CC_two (heap_alloc_new w1 _) ⟨none, 0, rfl, Nat.le_refl _, Kd.C_nil _ _⟩ ⟨A, c, rfl, hc, Kd.C_below hC (below_alloc hb _)⟩) (Nat.le_refl _) (by simp) (by rw [show [[], l] = [[]] ++ [l] from rfl, sum_app, sum_one, sum_one]; simp only [List.length_nil]; omega)
/-- what Newest says to such lists -/
theorem NewPost.alone {xss : List (List S41)} {l : List S41} {w w0 : World} {o : Obj} {e : Ending} {w' : World} (hN : NewPost xss (w.alloc o) e w') (hok : OkL l → ∀ x ∈ xss, OkL x) (hm : l ∈ xss) (hnw : OkL l → nwV xss = l) (hb : Below w0.heap.size w0 w) :
    Below w0.heap.size w0 w' ∧ ∃ A n c k, e = .returned (.tuple #[.slice A n c, .int .i64 k]) ∧ (OkL l → n = l.length ∧ k = 0 ∧ l.length ≤ c ∧ Kd.C k41 w' A l.length l) ∧ (¬ OkL l → k = 1) := by
  refine ⟨below_then hb hb.size (below_then (below_alloc (Below.refl _ w) o) (by simp) hN.below), ?_⟩
  by_cases h : OkL l
  · obtain ⟨A, c, he, hc, hC⟩ := hN.good (hok h)
    rw [hnw h] at he hc hC
    exact ⟨A, _, c, 0, he, fun _ => ⟨rfl, rfl, hc, hC⟩, fun h2 => absurd h h2⟩
  · exact ⟨none, 0, 0, 1, hN.bad (fun h2 => h (h2 l hm)), fun h2 => absurd h2 h, fun _ => rfl⟩
/-- a row of values, whatever they are -/
def valK : Kd Value where
  sz := 1
  E := []
  K := fun _ x cs => cs = [x] ∧ x.oneCell' = true
  M := fun _ _ _ x cs => cs = [x] ∧ x.oneCell' = true
  K_len := fun h => by rw [h.1]; rfl
  K_one := fun h u hu => by rw [h.1] at hu; rw [List.mem_singleton.1 hu]; exact h.2
  K_below := fun _ h => h
  K_of_M := fun h => h
  M_mono := fun _ h => h
  M_bound := fun h => h
  M_move := fun _ h => h
  M_lower := fun _ h => h
/-- lists, and the values that tell them -/
def ValsOf (w : World) (xss : List (List S41)) (vs : List Value) : Prop := vs.length = xss.length ∧ ∀ (i : Nat) (h1 : i < xss.length) (h2 : i < vs.length), (Kd.slice 41 k41).K w xss[i] [vs[i]]
theorem C_vals {w : World} {A : Option Addr} {n : Nat} {xss : List (List S41)} (h : Kd.C (Kd.slice 41 k41) w A n xss) : ∃ vs : List Value, Kd.C valK w A n vs ∧ ValsOf w xss vs := by
  rcases Nat.eq_zero_or_pos n with h0 | h0
  · have e : xss = [] := List.length_eq_zero_iff.1 (h.1.trans h0)
    subst e
    exact ⟨[], ⟨h.1, h.2.1, fun hh => absurd hh (by omega)⟩, rfl, fun i h1 => absurd h1 (Nat.not_lt_zero _)⟩
  · obtain ⟨ad, e, hr⟩ := h.2.2 h0
    have hg : ∀ (i : Nat) (hi : i < xss.length), ∃ v, w.cell? (ad.add i) = some v ∧ (Kd.slice 41 k41).K w xss[i] [v] := fun i hi => by
      obtain ⟨cs, hl, hk, hc⟩ := hr i xss[i] (List.getElem?_eq_getElem hi)
      obtain ⟨A1, c1, rfl, h1, h2⟩ := hk
      have := hc 0 _ rfl
      exact ⟨_, by simpa [Kd.slice] using this, A1, c1, rfl, h1, h2⟩
    refine ⟨(List.range xss.length).map (fun i => (w.cell? (ad.add i)).getD undef), ⟨by rw [List.length_map, List.length_range]; exact h.1, h.2.1, fun _ => ⟨ad, e, fun j p hj => ?_⟩⟩, by simp, fun i h1 h2 => ?_⟩
    · rw [List.getElem?_map] at hj
      rcases Nat.lt_or_ge j xss.length with hjl | hjl
      · rw [List.getElem?_range hjl, Option.map_some] at hj
        obtain ⟨v, hv, A1, c1, he, h1, h2⟩ := hg j hjl
        rw [hv] at hj
        injection hj with hj
        simp only [Option.getD_some] at hj
        subst hj
        refine ⟨[v], rfl, ⟨rfl, ?_⟩, fun i u hu => ?_⟩
        · injection he with he; rw [he]; rfl
        · rcases i with _ | i
          · simp at hu
            subst hu
            simpa [valK] using hv
          · simp at hu
      · rw [List.getElem?_eq_none (by simpa using hjl)] at hj
        simp at hj
    · obtain ⟨v, hv, hK⟩ := hg i h1
      rw [List.getElem_map, List.getElem_range, hv]
      exact hK
theorem C_of_vals {w : World} {A : Option Addr} {n : Nat} {xss : List (List S41)} {vs : List Value} (h : Kd.C valK w A n vs) (hv : ValsOf w xss vs) : Kd.C (Kd.slice 41 k41) w A n xss := by
  refine ⟨hv.1.symm.trans h.1, h.2.1, fun hn => ?_⟩
  obtain ⟨ad, e, hr⟩ := h.2.2 hn
  refine ⟨ad, e, fun j p hj => ?_⟩
  have hjl : j < xss.length := by
    rcases Nat.lt_or_ge j xss.length with h1 | h1
    · exact h1
    · rw [List.getElem?_eq_none h1] at hj; cases hj
  have hjv : j < vs.length := by rw [hv.1]; exact hjl
  rw [List.getElem?_eq_getElem hjl] at hj
  injection hj with hj
  subst hj
  obtain ⟨cs, hl, hk, hc⟩ := hr j vs[j] (List.getElem?_eq_getElem hjv)
  obtain ⟨rfl, _⟩ := hk
  exact ⟨[vs[j]], rfl, hv.2 j hjl hjv, hc⟩
theorem ValsOf.move {w w' : World} {xss : List (List S41)} {vs : List Value} (h : ValsOf w xss vs) (hb : Below w.heap.size w w') : ValsOf w' xss vs := ⟨h.1, fun i h1 h2 => (Kd.slice 41 k41).K_below hb (h.2 i h1 h2)⟩
theorem ValsOf.snoc {w : World} {xss : List (List S41)} {vs : List Value} {l : List S41} {v : Value} (h : ValsOf w xss vs) (hK : (Kd.slice 41 k41).K w l [v]) : ValsOf w (xss ++ [l]) (vs ++ [v]) := by
  refine ⟨by rw [List.length_append, List.length_append, h.1]; rfl, fun i h1 h2 => ?_⟩
  rcases Nat.lt_or_ge i xss.length with hi | hi
  · rw [List.getElem_append_left hi, List.getElem_append_left (by rw [h.1]; exact hi)]
    exact h.2 i hi (by rw [h.1]; exact hi)
  · have : i = xss.length := by simp at h1; omega
    subst this
    have e1 : (xss ++ [l])[xss.length] = l := by simp
    have e2 : (vs ++ [v])[xss.length] = v := by
      have := h.1
      simp [← this]
    rw [e1, e2]
    exact hK
theorem val_one {w : World} {g : Nat} {v : Value} (h : w.heap[g]? = some (.cells #[v] 25 (0, 0))) (hv : v.oneCell' = true) : Kd.C valK w (some ⟨g, 0, none⟩) 1 [v] := by
  refine ⟨rfl, by omega, fun _ => ⟨⟨g, 0, none⟩, rfl, fun j p hj => ?_⟩⟩
  rcases j with _ | j
  · simp at hj
    subst hj
    refine ⟨[v], rfl, ⟨rfl, hv⟩, fun i u hu => ?_⟩
    rw [add0, blk_cell h]
    rcases i with _ | i
    · simpa using hu
    · simp at hu
  · simp at hj
theorem old_up {α : Type} {d : Kd α} {w0 w1 w : World} {e b : Nat} {ok : Nat → Prop} {v : Value} {l : List α} (h : Kd.R (oldK d w0) e w b ok v l) (hb : Below w0.heap.size w0 w1) : Kd.R (oldK d w1) e w b ok v l := by
  obtain ⟨h0, inner, ho, hr⟩ := h
  exact ⟨h0, inner, ho, hr.imp_ (fun _ _ hp => d.K_below hb hp)⟩
theorem row_one {w we : World} {g : Nat} {l : List S41} {A : Option Addr} {c : Nat} (h : w.heap[g]? = some (.cells #[.slice A l.length c] 25 (0, 0))) (hK : (Kd.slice 41 k41).K we l [.slice A l.length c]) : Kd.C (oldK (Kd.slice 41 k41) we) w (some ⟨g, 0, none⟩) 1 [l] := by
  refine ⟨rfl, by omega, fun _ => ⟨⟨g, 0, none⟩, rfl, fun j p hj => ?_⟩⟩
  rcases j with _ | j
  · simp at hj
    subst hj
    refine ⟨_, rfl, hK, fun i u hu => ?_⟩
    rw [add0, blk_cell h]
    rcases i with _ | i
    · simpa using hu
    · simp at hu
  · simp at hj
/-- merge.Live's list is the call's own -/
theorem Live_R (A : Option Addr) (c : Nat) (l : List S41) (w : World) (hC : Kd.C k41 w A l.length l) (hc : l.length ≤ c) (hn : l.length ≤ 1099511627776) :
    Calls Try.prog 20 #[.slice A l.length c] w fun e w' => Below w.heap.size w w' ∧ ∃ A' c', e = .returned (.slice A' (liveV l).length c') ∧ Kd.R (oldK k41 w) 41 w' w.heap.size (fun _ => True) (.slice A' (liveV l).length c') (liveV l) := by
  have hcl := Clone_T A c l w hC hc hn
  clear hC
  go_enter Try.func20, Try.ntmps20
  go_wp2_with fail
  refine hcl.mono ?_
  rintro e w1 ⟨v1, rfl, hR1, hb1⟩
  have hdf := DeleteFunc_T w w1 _ v1 l hR1 hb1 hn
  have HR1 := Aside0.mk hR1
  have HB1 := Aside0.mk hb1
  clear hcl hR1 hb1
  go_wp2_with fail
  refine hdf.mono ?_
  rintro e w2 ⟨v2, rfl, hR2, hg2⟩
  have HFIN : Aside0 (Below w.heap.size w w2) := ⟨⟨hg2.os.trans HB1.out.os, hg2.tape.trans HB1.out.tape, hg2.output.trans HB1.out.output, Nat.le_trans HB1.out.size hg2.size, fun k hk => (hg2.block k (Nat.lt_of_lt_of_le hk HB1.out.size) (fun e => by
      obtain ⟨_, inner, ho, _⟩ := HR1.out
      have := own_base ho k e.symm
      omega)).trans (HB1.out.block k hk)⟩⟩
  obtain ⟨A', c', e⟩ := Kd.R_slice hR2
  subst e
  have HR2 := Aside0.mk hR2
  clear hdf hR2 hg2
  go_wp2
  go_ret
  exact ⟨HFIN.out, A', c', rfl, HR2.out⟩
/-- both null, or the same -/
theorem eqK_same (a k : S37) : eqK a k = ((a.f0 == k.f0 && (a.f1 == k.f1 && (a.f2.toList == k.f2.toList))) || (a.f0 && k.f0)) := by
  rw [Bool.eq_iff_iff, ← cmp_eqK, Thy.cmpV_zero]
  simp only [Bool.or_eq_true, Bool.and_eq_true, beq_iff_eq]
  constructor
  · rintro (⟨h1, h2⟩ | ⟨h1, h2, h3, h4⟩)
    · exact .inr ⟨h1, h2⟩
    · exact .inl ⟨by rw [h1, h2], h3, by rw [h4]⟩
  · rintro (⟨h1, h2, h3⟩ | ⟨h1, h2⟩)
    · cases hk : k.f0 with
      | true => exact .inl ⟨by rw [h1, hk], rfl⟩
      | false => exact .inr ⟨by rw [h1, hk], rfl, h2, Thy.toList_inj h3⟩
    · exact .inl ⟨h1, h2⟩
theorem any_from {l : List S41} {k : S37} (i : Nat) (h : ∀ (j : Nat) (hj : j < l.length), j < i → eqK (keyT l[j]) k = false) (hi : l.length ≤ i) : l.any (fun d => eqK (keyT d) k) = false := by
  rw [List.any_eq_false]
  intro d hd
  obtain ⟨j, hj, rfl⟩ := List.getElem_of_mem hd
  rw [h j hj (by omega)]
  simp
attribute [local go_sem high] eqA37
theorem has_T (A : Option Addr) (c : Nat) (l : List S41) (k : S37) (w : World) (hC : Kd.C k41 w A l.length l) (hne : ∀ d ∈ l, d.f1.length ≠ 0) (hn : l.length ≤ 4611686018427387904) :
    Calls Try.prog 23 #[.slice A l.length c, .agg (cellsT k)] w fun e w' => e = .returned (.bool (l.any (fun d => eqK (keyT d) k))) ∧ Below w.heap.size w w' := by
  have HC := Aside0.mk hC
  have HNE := Aside0.mk hne
  clear hC hne
  have x1 := heap_alloc_new w (.cells (cellsT k) 37)
  have bx := below_alloc (Below.refl _ w) (.cells (cellsT k) 37)
  have HX := Aside0.mk x1
  have HB := Aside0.mk bx
  clear x1 bx
  go_enter Try.func23, Try.ntmps23
  go_wp2
  generalize w.alloc (.cells (cellsT k) 37) = w1 at *
  go_loopg [5] l.length (fun kx a wr => ∃ i : Nat, a = .int .i64 i ∧ i ≤ l.length ∧ l.length - i ≤ kx ∧ Aside0 (Below w1.heap.size w1 wr) ∧ Aside0 (∀ (j : Nat) (h : j < l.length), j < i → eqK (keyT l[j]) k = false))
  case atStart => exact ⟨0, rfl, Nat.zero_le _, by omega, ⟨Below.refl _ _⟩, ⟨fun j _ h => absurd h (Nat.not_lt_zero _)⟩⟩
  case round =>
    obtain ⟨i, rfl, hi, hkx, HR, HA⟩ := hrel
    by_cases hlt : i < l.length
    · have hz0 : (0 : Int) ≤ (i : Int) := by omega
      have hz1 : (i : Int) < (l.length : Int) := by omega
      have hCr := Kd.C_below HC.out (below_then HB.out HB.out.size HR.out)
      obtain ⟨ad, Ar, cr, eA, x0, x1, hcr, hC⟩ := at_T41 hCr (i : Int) hz0 hz1
      subst eA
      rw [rdD_at l i hlt] at x0 x1 hcr hC
      simp only [Int.toNat_natCast] at x0 x1
      have hkl : 0 < l[i].f1.length := Nat.pos_of_ne_zero (HNE.out _ (List.getElem_mem hlt))
      obtain ⟨ak, eK, z0, z1, z2⟩ := at_T37 hC (0 : Int) (by omega) (by omega)
      subst eK
      have HEQ := Aside0.mk (eqK_same (keyT l[i]) k)
      have HA2 := Aside0.mk (fun (hf : eqK (keyT l[i]) k = false) (j : Nat) (h : j < l.length) (hj : j < i + 1) => show eqK (keyT l[j]) k = false from by
        by_cases e : j = i
        · subst e; exact hf
        · exact HA.out j h (by omega))
      have HM := Aside0.mk (fun (ht : eqK (keyT l[i]) k = true) => (List.any_eq_true.2 ⟨l[i], List.getElem_mem hlt, ht⟩ : l.any (fun d => eqK (keyT d) k) = true))
      have hq : rd_T37 l[i].f1 0 = keyT l[i] := rfl
      rw [hq] at z0 z1 z2
      have hrz : (0 : Int) < (l[i].f1.length : Int) := by omega
      generalize keyT l[i] = q at *
      generalize l[i].f1.length = rl at *
      have z0 : wr.cell? ak = some (.bool q.f0) := by simpa [Addr.add] using z0
      have z1 : wr.cell? ⟨ak.block, ak.off + 1, none⟩ = some (.int .i64 q.f1) := by simpa [Addr.add] using z1
      have z2 : wr.cell? ⟨ak.block, ak.off + 2, none⟩ = some (.string q.f2) := by simpa [Addr.add] using z2
      have hbk := blk_below HX.out HR.out
      have y0 := (blk_cell hbk 0).trans rfl
      have y1 := (blk_cell hbk 1).trans rfl
      have y2 := (blk_cell hbk 2).trans rfl
      have P1 : ∀ s : SomeW wr, s.W.cell? ⟨(ad.add (i * 2)).block, (ad.add (i * 2)).off + 1, none⟩ = some (.slice (some ak) rl cr) := fun s => cell_some x1 s
      have P2 : ∀ s : SomeW wr, s.W.cell? ak = some (.bool q.f0) := fun s => cell_some z0 s
      have P3 : ∀ s : SomeW wr, s.W.cell? ⟨ak.block, ak.off + 1, none⟩ = some (.int .i64 q.f1) := fun s => cell_some z1 s
      have P4 : ∀ s : SomeW wr, s.W.cell? ⟨ak.block, ak.off + 2, none⟩ = some (.string q.f2) := fun s => cell_some z2 s
      have Q0 : ∀ s : SomeW wr, s.W.cell? ⟨w.heap.size, 0, none⟩ = some (.bool k.f0) := fun s => cell_some y0 s
      have Q1 : ∀ s : SomeW wr, s.W.cell? ⟨w.heap.size, 0 + 1, none⟩ = some (.int .i64 k.f1) := fun s => cell_some y1 s
      have Q2 : ∀ s : SomeW wr, s.W.cell? ⟨w.heap.size, 0 + 2, none⟩ = some (.string k.f2) := fun s => cell_some y2 s
      clear x0 x1 hcr hC z0 z1 z2 y0 y1 y2 hbk hCr HA hq hkl
      cases h1 : (q.f0 == k.f0 && (q.f1 == k.f1 && (q.f2.toList == k.f2.toList))) with
      | true =>
        have HT := Aside0.mk (HM.out (by rw [HEQ.out, h1]; rfl))
        clear HM HEQ HA2
        go_wp2
        refine wp_region_quiet_some mixed_T (by kernel_rfl) ?_
        repeat (go_big_quiet_step (fail))
        refine wpQuiet_nil ?_
        intro w2 hw'
        obtain ⟨p_, hp_⟩ := hw'
        have hb2 : Below wr.heap.size wr w2 := by rw [hp_]; exact p_.h
        clear hp_ p_ P1 P2 P3 P4 Q0 Q1 Q2
        have HB2 := Aside0.mk (below_then HB.out HB.out.size (below_then HR.out HR.out.size hb2))
        clear hb2
        go_wp2
        go_ret
        exact ⟨by rw [HT.out]; rfl, HB2.out⟩
      | false =>
        cases h2 : q.f0 with
        | false =>
          have HF := Aside0.mk (HA2.out (by rw [HEQ.out, h1, h2]; rfl))
          clear HM HEQ HA2
          have h1' : (!k.f0 && (q.f1 == k.f1 && (q.f2.toList == k.f2.toList))) = false := by rw [← h1, h2]; cases k.f0 <;> rfl
          clear h1
          go_wp2
          refine wp_region_quiet_some mixed_T (by kernel_rfl) ?_
          repeat (go_big_quiet_step (fail))
          refine wpQuiet_nil ?_
          intro w2 hw'
          obtain ⟨p_, hp_⟩ := hw'
          have hb2 : Below wr.heap.size wr w2 := by rw [hp_]; exact p_.h
          clear hp_ p_ P1 P2 P3 P4 Q0 Q1 Q2
          have HR2 := Aside0.mk (below_then HR.out HR.out.size hb2)
          clear hb2
          go_wp2
          go_roundg (l.length - (i + 1))
          case measure => omega
          case rel => exact ⟨i + 1, by go_num, by omega, by omega, HR2, HF⟩
        | true =>
          cases h3 : k.f0 with
          | true =>
            have HT := Aside0.mk (HM.out (by rw [HEQ.out, h1, h2, h3]; rfl))
            clear HM HEQ HA2
            have h1' : (q.f1 == k.f1 && (q.f2.toList == k.f2.toList)) = false := by rw [← h1, h2, h3]; rfl
            clear h1
            go_wp2
            refine wp_region_quiet_some mixed_T (by kernel_rfl) ?_
            repeat (go_big_quiet_step (fail))
            refine wpQuiet_nil ?_
            intro w2 hw'
            obtain ⟨p_, hp_⟩ := hw'
            have hb2 : Below wr.heap.size wr w2 := by rw [hp_]; exact p_.h
            clear hp_ p_ P1 P2 P3 P4 Q0 Q1 Q2
            have HB2 := Aside0.mk (below_then HB.out HB.out.size (below_then HR.out HR.out.size hb2))
            clear hb2
            go_wp2
            go_ret
            exact ⟨by rw [HT.out]; rfl, HB2.out⟩
          | false =>
            have HF := Aside0.mk (HA2.out (by rw [HEQ.out, h1, h2, h3]; rfl))
            clear HM HEQ HA2
            clear h1
            go_wp2
            refine wp_region_quiet_some mixed_T (by kernel_rfl) ?_
            repeat (go_big_quiet_step (fail))
            refine wpQuiet_nil ?_
            intro w2 hw'
            obtain ⟨p_, hp_⟩ := hw'
            have hb2 : Below wr.heap.size wr w2 := by rw [hp_]; exact p_.h
            clear hp_ p_ P1 P2 P3 P4 Q0 Q1 Q2
            have HR2 := Aside0.mk (below_then HR.out HR.out.size hb2)
            clear hb2
            go_wp2
            go_roundg (l.length - (i + 1))
            case measure => omega
            case rel => exact ⟨i + 1, by go_num, by omega, by omega, HR2, HF⟩
    · obtain rfl : l.length = i := by omega
      have HT := Aside0.mk (any_from l.length HA.out (Nat.le_refl _))
      have HBR := Aside0.mk (below_then HB.out HB.out.size HR.out)
      clear HA
      go_wp2
      go_ret
      exact ⟨by rw [HT.out]; rfl, HBR.out⟩
end Go.Proofs.Ythlelhndmnkmjaa.Pr
