/- Groups: each group's rows: what gather makes of sorted items. -/
import Derived.Test.YthlelhndmnkmjaaRdk
import Derived.Test.YthlelhndmnkmjaaPr0
import Derived.Test.YthlelhndmnkmjaaPrf60
import Derived.Test.YthlelhndmnkmjaaPrz25
import Derived.Test.YthlelhndmnkmjaaPrzGrp2
import Derived.Test.YthlelhndmnkmjaaPrzSums
import Derived.Test.YthlelhndmnkmjaaThy
namespace Go.Proofs.Ythlelhndmnkmjaa.Pr
open Go.RowKit Go.Proofs.Ythlelhndmnkmjaa.Brid Go.Proofs.YthlelhndmnkmjaaW.PrintWords Go.Proofs.YthlelhndmnkmjaaW.PrintLast Go.Proofs.YthlelhndmnkmjaaW.PrintMore
set_option linter.unusedVariables false
set_option linter.unusedSimpArgs false
abbrev RowV := List S37
/-- two keys that are one -/
def eqK (a b : S37) : Bool := decide (Thy.cmpV a.f0 a.f1 a.f2 b.f0 b.f1 b.f2 = 0)
theorem eqK_iff (a b : S37) : eqK a b = true ↔ (a.f0 = true ∧ b.f0 = true) ∨ (a.f0 = false ∧ b.f0 = false ∧ a.f1 = b.f1 ∧ a.f2 = b.f2) := by
 unfold eqK; rw [decide_eq_true_eq]; exact Thy.cmpV_zero
theorem eqK_refl (a : S37) : eqK a a = true := by rw [eqK_iff]; cases a.f0 <;> simp
theorem eqK_symm {a b : S37} (h : eqK a b = true) : eqK b a = true := by
 rw [eqK_iff] at *
 rcases h with ⟨h1, h2⟩ | ⟨h1, h2, h3, h4⟩
 ·exact .inl ⟨h2, h1⟩
 ·exact .inr ⟨h2, h1, h3.symm, h4.symm⟩
theorem eqK_trans {a b c : S37} (h : eqK a b = true) (k : eqK b c = true) : eqK a c = true := by
 rw [eqK_iff] at *
 rcases h with ⟨h1, h2⟩ | ⟨h1, h2, h3, h4⟩ <;> rcases k with ⟨k1, k2⟩ | ⟨k1, k2, k3, k4⟩
 ·exact .inl ⟨h1, k2⟩
 ·rw [h2] at k1; cases k1
 ·rw [h2] at k1; cases k1
 ·exact .inr ⟨h1, k2, h3.trans k3, h4.trans k4⟩
theorem eqK_less {a b : S37} : eqK a b = false ↔ lessV a b = true ∨ lessV b a = true := by
 unfold eqK lessV
 rw [decide_eq_false_iff_not, ← Thy.cmpV_lt, ← Thy.cmpV_gt]
 omega
theorem eqK_not {a b : S37} (h : eqK a b = true) : lessV a b = false ∧ lessV b a = false := by
 constructor
 ·cases hh : lessV a b with
  | false => rfl
  | true => rw [eqK_less.2 (.inl hh)] at h; cases h
 ·cases hh : lessV b a with
  | false => rfl
  | true => rw [eqK_less.2 (.inr hh)] at h; cases h
theorem lessV_ntr {a b c : S37} (h1 : lessV a b = false) (h2 : lessV b c = false) : lessV a c = false := Thy.notless_trans h1 h2
theorem lessV_lt_nt {a b c : S37} (h1 : lessV a b = true) (h2 : lessV c b = false) : lessV a c = true := by
 cases h : lessV a c with
 | true => rfl
 | false => rw [lessV_ntr h h2] at h1; cases h1
abbrev It := S49 × List RowV
/-- a group, and its rows -/
structure Item (key col : Int) (p : It) : Prop where
 hd : ∃ r t, p.2 = r :: t ∧ rd_T37 r key = p.1.f0
 keys : ∀ r ∈ p.2, eqK p.1.f0 (rd_T37 r key) = true
 sums : Says (toSm p.1.f1) (colV p.2 col)
def ltI (a b : It) : Bool := lessV a.1.f0 b.1.f0
theorem ltI_swo : Sort.SWO ltI := ⟨fun x => Thy.less_irrefl _ _ _, fun x y z h1 h2 => Thy.less_trans h1 h2, fun x y z h1 h2 => Thy.notless_trans h1 h2⟩
theorem ins_fst (x : It) : ∀ l : List It, (Stab.ins ltI x l).map Prod.fst = Stab.ins (ltOf cfKey) x.1 (l.map Prod.fst)
 | [] => rfl
 | y :: l => by
  simp only [Stab.ins, List.map_cons]
  rw [cfKey_lt]
  show List.map Prod.fst (if ltI y x = true then y :: Stab.ins ltI x l else x :: y :: l) = (if ltI y x = true then _ else _)
  split
  ·rw [List.map_cons, ins_fst x l]
  ·rfl
theorem ssort_fst : ∀ l : List It, (Stab.ssort ltI l).map Prod.fst = Stab.ssort (ltOf cfKey) (l.map Prod.fst)
 | [] => rfl
 | x :: l => by
  show (Stab.ins ltI x (Stab.ssort ltI l)).map Prod.fst = Stab.ins (ltOf cfKey) x.1 (Stab.ssort (ltOf cfKey) (l.map Prod.fst))
  rw [ins_fst, ssort_fst l]
theorem ins_filter (p : It → Bool) (hp : ∀ x y, p x = true → p y = true → ltI x y = false) (x : It) : ∀ l : List It, (Stab.ins ltI x l).filter p = (x :: l).filter p
 | [] => rfl
 | y :: l => by
  unfold Stab.ins
  split
  ·rename_i h
   rw [List.filter_cons, ins_filter p hp x l, List.filter_cons, List.filter_cons, List.filter_cons]
   by_cases hx : p x = true
   ·by_cases hy : p y = true
    ·rw [hp y x hy hx] at h; cases h
    ·simp [hx, hy]
   ·rw [if_neg hx, if_neg hx]
  ·rfl
theorem ssort_filter (p : It → Bool) (hp : ∀ x y, p x = true → p y = true → ltI x y = false) : ∀ l : List It, (Stab.ssort ltI l).filter p = l.filter p
 | [] => rfl
 | x :: l => by
  show (Stab.ins ltI x (Stab.ssort ltI l)).filter p = _
  rw [ins_filter p hp, List.filter_cons, List.filter_cons, ssort_filter p hp l]
/-- gather, item by item: the rows stay one behind the other -/
theorem gat_groups (key col : Int) : ∀ (L : List It) (o : It), Item key col o → (∀ p ∈ L, Item key col p) → (∀ p ∈ L, ltI p o = false) → Stab.Srt ltI L → o.2.length + (L.flatMap Prod.snd).length < 9223372036854775808 →
  ∃ G : List It, gat o.1 (L.map Prod.fst) = G.map Prod.fst ∧ (∀ p ∈ G, Item key col p) ∧ G.Pairwise (fun a b => ltI a b = true) ∧ (∀ p ∈ G, ltI p o = false) ∧ G.flatMap Prod.snd = o.2 ++ L.flatMap Prod.snd := by
 intro L
 induction L with
 | nil =>
  intro o ho _ _ _ _
  exact ⟨[o], rfl, fun p hp => by rw [List.mem_singleton.1 hp]; exact ho, List.pairwise_singleton _ _, fun p hp => by rw [List.mem_singleton.1 hp]; exact ltI_swo.irrefl o, by simp⟩
 | cons g L ih =>
  intro o ho hL hge hS hlen
  have hS' := List.pairwise_cons.1 hS
  have hg := hL g List.mem_cons_self
  rw [List.flatMap_cons, List.length_append] at hlen
  rw [List.map_cons, gat]
  by_cases c : cfKey o.1 g.1 = 0
  ·rw [if_pos c]
   have hog : eqK o.1.f0 g.1.f0 = true := decide_eq_true c
   have hI : Item key col (⟨o.1.f0, ofSm (joinV (toSm o.1.f1) (toSm g.1.f1))⟩, o.2 ++ g.2) := by
    refine ⟨?_, ?_, ?_⟩
    ·obtain ⟨r, t, h1, h2⟩ := ho.hd
     exact ⟨r, t ++ g.2, by rw [h1]; rfl, h2⟩
    ·intro r hr
     rcases List.mem_append.1 hr with hr | hr
     ·exact ho.keys r hr
     ·exact eqK_trans hog (hg.keys r hr)
    ·rw [show colV (o.2 ++ g.2) col = colV o.2 col ++ colV g.2 col by simp [colV]]
     exact ho.sums.join hg.sums (by simp [colV]; omega)
   obtain ⟨G, h1, h2, h3, h4, h5⟩ := ih (⟨o.1.f0, ofSm (joinV (toSm o.1.f1) (toSm g.1.f1))⟩, o.2 ++ g.2) hI (fun p hp => hL p (List.mem_cons_of_mem _ hp)) (fun p hp => hge p (List.mem_cons_of_mem _ hp)) hS'.2 (by simp only [List.length_append]; omega)
   exact ⟨G, h1, h2, h3, h4, by rw [h5, List.flatMap_cons, List.append_assoc]⟩
  ·rw [if_neg c]
   have hlt : ltI o g = true := by
    have : eqK o.1.f0 g.1.f0 = false := decide_eq_false c
    rcases eqK_less.1 this with h | h
    ·exact h
    ·rw [show lessV g.1.f0 o.1.f0 = false from hge g List.mem_cons_self] at h; cases h
   obtain ⟨G, h1, h2, h3, h4, h5⟩ := ih g hg (fun p hp => hL p (List.mem_cons_of_mem _ hp)) (fun p hp => hS'.1 p hp) hS'.2 (by omega)
   refine ⟨o :: G, by rw [h1]; rfl, ?_, List.pairwise_cons.2 ⟨fun p hp => lessV_lt_nt hlt (h4 p hp), h3⟩, ?_, by rw [List.flatMap_cons, h5, List.flatMap_cons]⟩
   ·intro p hp
    rcases List.mem_cons.1 hp with rfl | hp
    ·exact ho
    ·exact h2 p hp
   ·intro p hp
    rcases List.mem_cons.1 hp with rfl | hp
    ·exact ltI_swo.irrefl _
    ·exact ltI_swo.asymmA (lessV_lt_nt hlt (h4 p hp))
/-- the groups of rows -/
structure Grouped (key col : Int) (rows : List RowV) (G : List It) : Prop where
 items : ∀ p ∈ G, Item key col p
 strict : G.Pairwise (fun a b => ltI a b = true)
 perm : rows.Perm (G.flatMap Prod.snd)
 flat : ∀ k : S37, rows.filter (fun r => eqK k (rd_T37 r key)) = (G.flatMap Prod.snd).filter (fun r => eqK k (rd_T37 r key))
theorem gather_groups (key col : Int) (I : List It) (hI : ∀ p ∈ I, Item key col p) (hlen : (I.flatMap Prod.snd).length < 9223372036854775808) :
  ∃ G : List It, gatherV (Stab.ssort (ltOf cfKey) (I.map Prod.fst)) = G.map Prod.fst ∧ Grouped key col (I.flatMap Prod.snd) G := by
 rw [← ssort_fst]
 have hp := Stab.ssort_perm (lt := ltI) I
 have hs := Stab.srt_ssort ltI_swo I
 have hf : ∀ k : S37, (I.flatMap Prod.snd).filter (fun r => eqK k (rd_T37 r key)) = ((Stab.ssort ltI I).flatMap Prod.snd).filter (fun r => eqK k (rd_T37 r key)) := by
  intro k
  have hk : ∀ J : List It, (∀ p ∈ J, Item key col p) → (J.flatMap Prod.snd).filter (fun r => eqK k (rd_T37 r key)) = (J.filter (fun p => eqK k p.1.f0)).flatMap Prod.snd := by
   intro J
   induction J with
   | nil => intro _; rfl
   | cons p J ih =>
    intro hJ
    have hpI := hJ p List.mem_cons_self
    rw [List.flatMap_cons, List.filter_append, ih (fun q hq => hJ q (List.mem_cons_of_mem _ hq)), List.filter_cons]
    cases hkp : eqK k p.1.f0 with
    | true =>
     rw [if_pos rfl, List.flatMap_cons, List.filter_eq_self.2 (fun r hr => eqK_trans hkp (hpI.keys r hr))]
    | false =>
     rw [if_neg (by decide), List.filter_eq_nil_iff.2 (fun r hr h => by rw [eqK_trans h (eqK_symm (hpI.keys r hr))] at hkp; cases hkp), List.nil_append]
  rw [hk I hI, hk _ (fun p h => hI p (hp.mem_iff.1 h)), ssort_filter (fun p => eqK k p.1.f0) (fun x y hx hy => (eqK_not (eqK_trans (eqK_symm hx) hy)).1)]
 have hpf : (I.flatMap Prod.snd).Perm ((Stab.ssort ltI I).flatMap Prod.snd) := (hp.symm.flatMap_right Prod.snd)
 cases hq : Stab.ssort ltI I with
 | nil =>
  refine ⟨[], rfl, ⟨fun p h => (by cases h), List.Pairwise.nil, ?_, ?_⟩⟩
  ·rw [hq] at hpf; exact hpf
  ·intro k; rw [hf k, hq]
 | cons o L =>
  rw [hq] at hs hpf hf
  have hs' := List.pairwise_cons.1 hs
  have hm : ∀ p ∈ o :: L, Item key col p := fun p h => hI p (hp.mem_iff.1 (by rw [hq]; exact h))
  have hl2 : o.2.length + (L.flatMap Prod.snd).length < 9223372036854775808 := by
   have := hpf.length_eq
   rw [List.flatMap_cons, List.length_append] at this
   omega
  obtain ⟨G, h1, h2, h3, h4, h5⟩ := gat_groups key col L o (hm o List.mem_cons_self) (fun p h => hm p (List.mem_cons_of_mem _ h)) (fun p h => hs'.1 p h) hs'.2 hl2
  refine ⟨G, ?_, ⟨h2, h3, ?_, ?_⟩⟩
  ·rw [List.map_cons]; exact h1
  ·rw [h5, ← List.flatMap_cons]; exact hpf
  ·intro k; rw [hf k, h5, List.flatMap_cons]
theorem mkG_item (key col : Int) (r : RowV) (hw : (Lit.int .i64 (rd_T37 r col).f1).wf = true) : Item key col (mkG key col r, [r]) := by
 refine ⟨⟨r, [], rfl, rfl⟩, fun q hq => by rw [List.mem_singleton.1 hq]; exact eqK_refl _, ?_⟩
 have := Says.join Says.zero (Says.one _ hw) (by simp)
 exact this
theorem byV_groups (key col : Int) (rows : List RowV) (hl : rows.length < 9223372036854775808) (hw : ∀ r ∈ rows, (Lit.int .i64 (rd_T37 r col).f1).wf = true) :
  ∃ G : List It, byV key col rows = G.map Prod.fst ∧ Grouped key col rows G := by
 have hf : (rows.map (fun r => ((mkG key col r, [r]) : It))).flatMap Prod.snd = rows := by
  induction rows with
  | nil => rfl
  | cons r rows ih => rw [List.map_cons, List.flatMap_cons, ih (by simp at hl; omega) (fun q hq => hw q (List.mem_cons_of_mem _ hq))]; rfl
 obtain ⟨G, h1, h2⟩ := gather_groups key col (rows.map (fun r => ((mkG key col r, [r]) : It))) (fun p hp => by
  obtain ⟨r, hr, rfl⟩ := List.mem_map.1 hp
  exact mkG_item key col r (hw r hr)) (by rw [hf]; exact hl)
 rw [hf] at h2
 refine ⟨G, ?_, h2⟩
 rw [← h1]
 unfold byV
 rw [List.map_map]
 rfl

end Go.Proofs.Ythlelhndmnkmjaa.Pr
