/- The order of the puts does not matter where no two stand for each other; a plain region in a round. -/
import Derived.Test.YtnfliommpdjlkaaSkFou
namespace Go.Proofs.Ytnfliommpdjlkaa.Pr
open Go.RowKit Go.Proofs.Ytnfliommpdjlkaa.Brid Go.Proofs.YtnfliommpdjlkaaW.PrintWords Go.Proofs.YtnfliommpdjlkaaW.PrintLast Go.Proofs.YtnfliommpdjlkaaW.PrintMore
set_option linter.unusedVariables false
set_option linter.unusedSimpArgs false
set_option maxHeartbeats 4000000
set_option maxRecDepth 100000
attribute [local go_sem] Oper.semAt_some
/-- in a row and of one key -/
def qK (k : S27) (d : S25) : Bool := (decide (d.f1.length ≠ 0)) && eqK (keyT d) k
/-- two deeds that cannot stand for each other -/
def Apart25 (a b : S25) : Prop := a.f1.length ≠ 0 → b.f1.length ≠ 0 → eqK (keyT b) (keyT a) = false
theorem newV_filter (k : S27) (acc : Option S25) (l : List S25) : newV k acc l = ((l.filter (qK k)).getLast?).or acc := by
  induction l generalizing acc with
  | nil => simp [newV]
  | cons a l ih =>
    rw [newV, List.foldl_cons]
    show newV k _ l = _
    rw [ih]
    by_cases h : a.f1.length = 0
    · rw [if_pos h, List.filter_cons_of_neg (by simp [qK, h])]
    · rw [if_neg h]
      by_cases h2 : eqK (keyT a) k = true
      · rw [if_pos h2, List.filter_cons_of_pos (by simp [qK, h, h2]), List.getLast?_cons]
        cases (l.filter (qK k)).getLast? <;> simp
      · rw [if_neg h2, List.filter_cons_of_neg (by simp [qK, h2])]
theorem filter_one {l : List S25} (h : l.Pairwise Apart25) (k : S27) : l.filter (qK k) = [] ∨ ∃ d, l.filter (qK k) = [d] := by
  have hp := h.filter (qK k)
  have hm : ∀ d ∈ l.filter (qK k), d.f1.length ≠ 0 ∧ eqK (keyT d) k = true := fun d hd => by
    have := (List.mem_filter.1 hd).2
    simpa [qK] using this
  cases hc : l.filter (qK k) with
  | nil => exact .inl rfl
  | cons a r =>
    cases r with
    | nil => exact .inr ⟨a, rfl⟩
    | cons b r =>
      rw [hc] at hp hm
      have h1 := (List.pairwise_cons.1 hp).1 b (by simp)
      have ha := hm a (by simp)
      have hb := hm b (by simp)
      have := h1 ha.1 hb.1
      rw [eqK_trans hb.2 (eqK_symm ha.2)] at this
      cases this
theorem newV_reverse {l : List S25} (h : l.Pairwise Apart25) (k : S27) : newV k none l.reverse = newV k none l := by
  rw [newV_filter, newV_filter, List.filter_reverse]
  rcases filter_one h k with h1 | ⟨d, h1⟩ <;> rw [h1] <;> rfl
theorem findV_mem {A : List S25} (hs : SortedD A) {d : S25} (hd : d ∈ A) : findV A (keyT d) = some d := by
  induction A with
  | nil => cases hd
  | cons a r ih =>
    rw [findV, List.find?_cons]
    rcases List.mem_cons.1 hd with h | h
    · subst h; rw [eqK_refl]
    · have hl := (List.pairwise_cons.1 hs).1 d h
      have : eqK (keyT a) (keyT d) = false := by simp [eqK, hl]
      rw [this]
      exact ih (List.pairwise_cons.1 hs).2 h
theorem sorted_ext {A B : List S25} (ha : SortedD A) (hb : SortedD B) (h : ∀ d, d ∈ A ↔ d ∈ B) : A = B := by
  induction A generalizing B with
  | nil =>
    cases B with
    | nil => rfl
    | cons b r => have := (h b).2 (by simp); cases this
  | cons a r ih =>
    cases B with
    | nil => have := (h a).1 (by simp); cases this
    | cons b s =>
      have pa := List.pairwise_cons.1 ha
      have pb := List.pairwise_cons.1 hb
      have e : a = b := by
        rcases List.mem_cons.1 ((h a).1 (by simp)) with h1 | h1
        · exact h1
        · rcases List.mem_cons.1 ((h b).2 (by simp)) with h2 | h2
          · exact h2.symm
          · have x := pb.1 a h1
            have y := pa.1 b h2
            have := lessT_trans x y
            rw [lessT_irrefl] at this
            cases this
      subst e
      congr 1
      refine ih pa.2 pb.2 fun d => ⟨fun hd => ?_, fun hd => ?_⟩
      · rcases List.mem_cons.1 ((h d).1 (List.mem_cons_of_mem _ hd)) with h1 | h1
        · subst h1; have := pa.1 d hd; rw [lessT_irrefl] at this; cases this
        · exact h1
      · rcases List.mem_cons.1 ((h d).2 (List.mem_cons_of_mem _ hd)) with h1 | h1
        · subst h1; have := pb.1 d hd; rw [lessT_irrefl] at this; cases this
        · exact h1
theorem putsV_reverse {l : List S25} (h : l.Pairwise Apart25) : putsV l.reverse = putsV l := by
  have hf : ∀ k, findV (putsV l.reverse) k = findV (putsV l) k := fun k => by
    rw [← getV_find _ _ (putsV_sorted _), ← getV_find _ _ (putsV_sorted _), getV_puts, getV_puts, newV_reverse h]
  refine sorted_ext (putsV_sorted _) (putsV_sorted _) fun d => ⟨fun hd => ?_, fun hd => ?_⟩
  · have := findV_mem (putsV_sorted _) hd
    rw [hf] at this
    exact List.mem_of_find?_eq_some this
  · have := findV_mem (putsV_sorted _) hd
    rw [← hf] at this
    exact List.mem_of_find?_eq_some this
theorem cmp_eqK (a b : S27) : Thy.cmpV a.f0 a.f1 a.f2 b.f0 b.f1 b.f2 = 0 ↔ eqK a b = true := by
  rw [eqK_iff]
  unfold lessT Thy.cmpV
  cases h1 : Thy.less a.f0 a.f1 a.f2 b.f0 b.f1 b.f2 <;> cases h2 : Thy.less b.f0 b.f1 b.f2 a.f0 a.f1 a.f2 <;> simp
theorem wpListIn_of {P : Program} {ops : Array Oper} {Q : Exit → Act → World → Prop} {l : Nat} (hlo : ¬ LetsOut Q) : ∀ (rest : List Oper) (a : Act) (w : World), (∀ o ∈ rest, ∀ c, o.op ≠ .defer c) → wpList P ops Q rest a w → wpListIn (Fence.wide.inRound l) 0 P ops Q rest a w := by
  intro rest
  induction rest with
  | nil => intro a w _ h; exact h
  | cons o rest ih =>
    intro a w hnd h
    have hK := fun a w => ih a w (fun o ho => hnd o (List.mem_cons_of_mem _ ho))
    have hm : ∀ c, o.op ≠ .defer c := hnd o (List.mem_cons_self ..)
    unfold wpList at h
    unfold wpListIn
    by_cases hw : Region.wanted o (yielded ops a.tmps) = true
    · rw [if_pos hw] at h ⊢
      rcases h with h | ⟨_, h⟩
      · refine ⟨fun _ _ => trivial, ?_⟩
        rw [Oper.semAt_eq _ _ _ hm]
        unfold Oper.wp at h
        generalize (execOp a.eval o).run P w = r at h ⊢
        cases r with
        | ok nx w' =>
          cases nx with
          | value v => exact hK _ _ h
          | skip => exact hK _ _ h
          | defer d => exact hK _ _ h
          | enter f args =>
            refine ⟨fun hh => absurd hh (by simp [Fence.wide]), CallsIn.inRound l (callsIn_wide.2 (Calls.mono h ?_))⟩
            intro e w'' he
            cases e with
            | returned v => exact hK _ _ he
            | panicked c => exact he
            | outgrown => exact he
          | row row args =>
            exact ⟨fun hh => absurd hh (by simp [Fence.wide]), fun c cs _ => by
              obtain ⟨v, w'', hr, hs⟩ := h c cs
              exact ⟨v, w'', hK _ _ hr, stepsIn_wide.2 hs⟩⟩
          | _ => exact h.elim
        | halt hh w' =>
          cases hh with
          | panic v => exact h
          | _ => exact h.elim
      · exact absurd h hlo
    · rw [if_neg hw] at h ⊢
      exact ⟨fun _ _ => trivial, hK _ _ h⟩
theorem wpIn_region_plain {P : Program} {id n : Nat} {Q : Exit → Act → World → Prop} {a : Act} {w : World} {l : List Oper} (hnd : l.all noDefer = true) (hlo : ¬ LetsOut Q) (h : wpList P l.toArray Q l a w) : (Code.region id l.toArray false).wpIn (Fence.wide.inRound n) 0 P Q a w :=
  wpIn_region_lit (wpListIn_of hlo l a w (fun o ho => noDefer_spec hnd o (by simpa using ho)) h)
end Go.Proofs.Ytnfliommpdjlkaa.Pr
