/- What all groups come to is what all rows come to; each row is in one group: that of its value. -/
import Derived.Test.YthlelhndmnkmjaaRdk
import Derived.Test.YthlelhndmnkmjaaPr0
import Derived.Test.YthlelhndmnkmjaaPrf11
import Derived.Test.YthlelhndmnkmjaaPrf24
import Derived.Test.YthlelhndmnkmjaaPrf27
import Derived.Test.YthlelhndmnkmjaaPrf30
import Derived.Test.YthlelhndmnkmjaaPrf32
import Derived.Test.YthlelhndmnkmjaaPrf33
import Derived.Test.YthlelhndmnkmjaaPrf34
import Derived.Test.YthlelhndmnkmjaaPrf50
import Derived.Test.YthlelhndmnkmjaaPrf60
import Derived.Test.YthlelhndmnkmjaaPrz25
import Derived.Test.YthlelhndmnkmjaaPrzGrp
import Derived.Test.YthlelhndmnkmjaaPrzGrp2
import Derived.Test.YthlelhndmnkmjaaPrzGrp3
import Derived.Test.YthlelhndmnkmjaaPrzSums
import Derived.Test.YthlelhndmnkmjaaThy
namespace Go.Proofs.Ythlelhndmnkmjaa.Pr
open Go.RowKit Go.Proofs.Ythlelhndmnkmjaa.Brid Go.Proofs.YthlelhndmnkmjaaW.PrintWords Go.Proofs.YthlelhndmnkmjaaW.PrintLast Go.Proofs.YthlelhndmnkmjaaW.PrintMore
set_option linter.unusedVariables false
set_option linter.unusedSimpArgs false
theorem flat_of (key col : Int) : ∀ (G : List It), (∀ p ∈ G, Item key col p) → G.Pairwise (fun a b => ltI a b = true) → ∀ p ∈ G, (G.flatMap Prod.snd).filter (fun r => eqK p.1.f0 (rd_T37 r key)) = p.2 := by
  have hno : ∀ (p q : It), Item key col q → eqK p.1.f0 q.1.f0 = false → q.2.filter (fun r => eqK p.1.f0 (rd_T37 r key)) = [] := fun p q hq hn => List.filter_eq_nil_iff.2 (fun r hr h => by
    rw [eqK_trans h (eqK_symm (hq.keys r hr))] at hn; cases hn)
  have hnil : ∀ (p : It) (G : List It), (∀ q ∈ G, Item key col q ∧ eqK p.1.f0 q.1.f0 = false) → (G.flatMap Prod.snd).filter (fun r => eqK p.1.f0 (rd_T37 r key)) = [] := by
    intro p G
    induction G with
    | nil => intro _; rfl
    | cons q G ih =>
      intro h
      rw [List.flatMap_cons, List.filter_append, hno p q (h q List.mem_cons_self).1 (h q List.mem_cons_self).2, ih (fun x hx => h x (List.mem_cons_of_mem _ hx))]; rfl
  intro G
  induction G with
  | nil => intro _ _ p hp; cases hp
  | cons q G ih =>
    intro hI hS p hp
    have hS' := List.pairwise_cons.1 hS
    rw [List.flatMap_cons, List.filter_append]
    rcases List.mem_cons.1 hp with rfl | hp
    · rw [List.filter_eq_self.2 (fun r hr => (hI p List.mem_cons_self).keys r hr), hnil p G (fun x hx => ⟨hI x (List.mem_cons_of_mem _ hx), eqK_less.2 (.inl (hS'.1 x hx))⟩), List.append_nil]
    · rw [hno p q (hI q List.mem_cons_self) (eqK_less.2 (.inr (hS'.1 p hp))), List.nil_append]
      exact ih (fun x hx => hI x (List.mem_cons_of_mem _ hx)) hS'.2 p hp
def totV (s : Sm) (l : List S49) : Sm := l.foldl (fun s g => joinV s (toSm g.f1)) s
theorem Total.loop (l : List S49) (hl : l.length ≤ 1000000000) : ∀ (d k n : Nat) (s : Sm), n + d = l.length →
    groups_Total.l0 (k + d + 1) l (l.length : Int) (n : Int) s.c s.s s.v s.lo.f0 s.lo.f1 s.lo.f2 s.hi.f0 s.hi.f1 s.hi.f2 = some (totV s (l.drop n)).tup := by
  intro d
  induction d with
  | zero =>
    intro k n s hn
    rw [groups_Total.l0, if_neg (by omega), List.drop_eq_nil_of_le (by omega)]
    rfl
  | succ d ih =>
    intro k n s hn
    have hlt : n < l.length := by omega
    rw [show k + (d + 1) + 1 = (k + d + 1) + 1 by omega, groups_Total.l0, if_pos (by omega), if_pos (by omega), if_pos (by omega), rdG_at l n hlt, List.drop_eq_getElem_cons hlt, wr_one n (by omega)]
    rw [show sums_Join_c.f s.c s.s s.v s.lo.f0 s.lo.f1 s.lo.f2 s.hi.f0 s.hi.f1 s.hi.f2 l[n].f1.f0 l[n].f1.f1 l[n].f1.f2 l[n].f1.f3.f0 l[n].f1.f3.f1 l[n].f1.f3.f2 l[n].f1.f4.f0 l[n].f1.f4.f1 l[n].f1.f4.f2 = some (joinV s (toSm l[n].f1)).tup from rfl]
    show groups_Total.l0 (k + d + 1) l (l.length : Int) ((n + 1 : Nat) : Int) (joinV s (toSm l[n].f1)).c _ _ _ _ _ _ _ _ = some (totV (joinV s (toSm l[n].f1)) (l.drop (n + 1))).tup
    exact ih k (n + 1) (joinV s (toSm l[n].f1)) (by omega)
theorem groups_Total.is (l : List S49) (hl : l.length ≤ 1000000000) (k : Nat) : groups_Total.f (k + l.length + 1) l = some (totV zeroS l).tup := by
  have := Total.loop l hl l.length k 0 zeroS (by omega)
  rw [List.drop_zero] at this
  exact this
theorem totV_says (key col : Int) : ∀ (G : List It) (s : Sm) (x : List S37), Says s x → (∀ p ∈ G, Item key col p) → x.length + (G.flatMap Prod.snd).length < 9223372036854775808 → Says (totV s (G.map Prod.fst)) (x ++ colV (G.flatMap Prod.snd) col) := by
  intro G
  induction G with
  | nil => intro s x hs _ _; simpa [totV, colV] using hs
  | cons p G ih =>
    intro s x hs hI hl
    rw [List.flatMap_cons, List.length_append] at hl
    have hp := hI p List.mem_cons_self
    have := ih (joinV s (toSm p.1.f1)) (x ++ colV p.2 col) (hs.join hp.sums (by rw [show (colV p.2 col).length = p.2.length by simp [colV]]; omega)) (fun q hq => hI q (List.mem_cons_of_mem _ hq)) (by rw [List.length_append, show (colV p.2 col).length = p.2.length by simp [colV]]; omega)
    rw [List.append_assoc, show colV p.2 col ++ colV (G.flatMap Prod.snd) col = colV ((p :: G).flatMap Prod.snd) col by simp [colV]] at this
    exact this
theorem rdT_sz (r : RowV) (c : Int) (h : ∀ x ∈ r, x.f2.size ≤ 9223372036854775807) : (rd_T37 r c).f2.size ≤ 9223372036854775807 := by
  unfold rd_T37
  rw [List.getD_eq_getElem?_getD]
  cases hh : r[c.toNat]? with
  | none => exact Nat.zero_le _
  | some x => exact h x (List.mem_of_getElem? hh)
theorem Sorted.loop (l : List S49) (hl : l.length ≤ 1000000000) (hs : ∀ g ∈ l, g.f0.f2.size ≤ 9223372036854775807) (hp : l.Pairwise (fun a b => lessV a.f0 b.f0 = true)) : ∀ (d k n : Nat), n + d = l.length → 0 < n →
    tithebarnref24_Sorted.l0 (k + d + 1) l (n : Int) = some true := by
  intro d
  induction d with
  | zero =>
    intro k n hn h0
    rw [tithebarnref24_Sorted.l0, if_neg (by omega)]
  | succ d ih =>
    intro k n hn h0
    have hlt : n < l.length := by omega
    have hw : ∀ m : Nat, m ≤ 1000000000 → 0 < m → wrap64 ((m : Int) - 1) = ((m - 1 : Nat) : Int) := fun m h1 h2 => by rw [wr_small _ (by omega) (by omega)]; omega
    rw [show k + (d + 1) + 1 = (k + d + 1) + 1 by omega, tithebarnref24_Sorted.l0, if_pos (by omega), hw n (by omega) h0, if_pos (by omega), if_pos (by omega), if_pos (by omega), rdG_at l n hlt, rdG_at l (n - 1) (by omega), wr_one n (by omega)]
    simp only [tithebarnref02_Ahead_c.f]
    rw [if_pos (hs _ (List.getElem_mem _))]
    have := List.pairwise_iff_getElem.1 hp (n - 1) n (by omega) hlt (by omega)
    simp only [Option.bind_some]
    rw [if_pos (show Thy.less l[n - 1].f0.f0 l[n - 1].f0.f1 l[n - 1].f0.f2 l[n].f0.f0 l[n].f0.f1 l[n].f0.f2 = true from this)]
    exact ih k (n + 1) (by omega) (by omega)
theorem Sorted.is (l : List S49) (hl : l.length ≤ 1000000000) (hs : ∀ g ∈ l, g.f0.f2.size ≤ 9223372036854775807) (hp : l.Pairwise (fun a b => lessV a.f0 b.f0 = true)) (k : Nat) : tithebarnref24_Sorted.f (k + l.length + 1) l = some true := by
  unfold tithebarnref24_Sorted.f
  cases l with
  | nil => rw [List.length_nil, Nat.add_zero, tithebarnref24_Sorted.l0]; rfl
  | cons g r =>
    have := Sorted.loop (g :: r) hl hs hp r.length (k + 1) 1 (by simp; omega) (by omega)
    rw [show k + 1 + r.length + 1 = k + (g :: r).length + 1 by simp; omega] at this
    exact this
theorem GroupsTotal.inner (rows : List RowV) (key : Int) (G : List S49) (i : Nat) (hi : i < G.length) (hG : G.length ≤ 1000) (hR : rows.length ≤ 1000) (hk0 : 0 ≤ key) (hk : ∀ r ∈ rows, key < (r.length : Int))
    (hz : ∀ r ∈ rows, (rd_T37 r key).f2.size ≤ 9223372036854775807) (hz2 : G[i].f0.f2.size ≤ 9223372036854775807) (e : Int) (x1 x2 x3 : Int) (x4 : Bool) (x5 : Int) (x6 : ByteArray) (x7 : Bool) (x8 : Int) (x9 : ByteArray) (N : Nat) (h0 : 0 < N) (hc : G[i].f1.f0 = (N : Int)) :
    ∀ (d k j c : Nat), j + d = rows.length → c ≤ j → c + ((rows.drop j).filter (fun r => eqK G[i].f0 (rd_T37 r key))).length = N →
    tithebarnlaw24_GroupsTotal.l1 (k + d + 1) rows key G e (i : Int) (c : Int) (j : Int) x1 x2 x3 x4 x5 x6 x7 x8 x9 = tithebarnlaw24_GroupsTotal.l0 k rows key G e ((i + 1 : Nat) : Int) x1 x2 x3 x4 x5 x6 x7 x8 x9 := by
  intro d
  induction d with
  | zero =>
    intro k j c hj hcj he
    rw [List.drop_eq_nil_of_le (by omega)] at he
    simp only [List.filter_nil, List.length_nil, Nat.add_zero] at he
    subst he
    rw [tithebarnlaw24_GroupsTotal.l1, if_neg (by omega), if_neg (by omega), if_pos (by omega), if_pos (by omega), rdG_at G i hi, if_pos hc.symm, wr_one i (by omega)]
  | succ d ih =>
    intro k j c hj hcj he
    have hlt : j < rows.length := by omega
    rw [List.drop_eq_getElem_cons hlt, List.filter_cons] at he
    rw [show k + (d + 1) + 1 = (k + d + 1) + 1 by omega, tithebarnlaw24_GroupsTotal.l1, if_pos (by omega), if_pos (by omega), if_pos hk0, rdRowG_at rows j hlt, if_pos (hk _ (List.getElem_mem _)), if_pos (by omega), if_pos (by omega), rdG_at G i hi, wr_one j (by omega), wr_one c (by omega)]
    simp only [tithebarnref02_Compare_c.f]
    rw [if_pos (hz _ (List.getElem_mem _)), if_pos hz2]
    simp only [Option.bind_some]
    by_cases hq : Thy.cmpV (rd_T37 rows[j] key).f0 (rd_T37 rows[j] key).f1 (rd_T37 rows[j] key).f2 G[i].f0.f0 G[i].f0.f1 G[i].f0.f2 = 0
    · rw [if_pos hq]
      rw [if_pos (eqK_symm (decide_eq_true hq)), List.length_cons] at he
      exact ih k (j + 1) (c + 1) (by omega) (by omega) (by omega)
    · rw [if_neg hq]
      have hn : ¬ eqK G[i].f0 (rd_T37 rows[j] key) = true := fun h => hq (of_decide_eq_true (eqK_symm h))
      rw [if_neg hn] at he
      exact ih k (j + 1) c (by omega) (by omega) he
theorem GroupsTotal.outer (rows : List RowV) (key : Int) (G : List S49) (hG : G.length ≤ 1000) (hR : rows.length ≤ 1000) (hk0 : 0 ≤ key) (hk : ∀ r ∈ rows, key < (r.length : Int))
    (hz : ∀ r ∈ rows, (rd_T37 r key).f2.size ≤ 9223372036854775807) (hz2 : ∀ g ∈ G, g.f0.f2.size ≤ 9223372036854775807)
    (hc : ∀ g ∈ G, 0 < (rows.filter (fun r => eqK g.f0 (rd_T37 r key))).length ∧ g.f1.f0 = ((rows.filter (fun r => eqK g.f0 (rd_T37 r key))).length : Int))
    (tot : Sm) (hT : ∀ k, groups_Total.f (k + G.length + 1) G = some tot.tup) (hS : ∀ k, tithebarnref24_Sorted.f (k + G.length + 1) G = some true) :
    ∀ (e k i : Nat), i + e = G.length → e * (rows.length + 2) + G.length + 2 < k →
    tithebarnlaw24_GroupsTotal.l0 k rows key G 0 (i : Int) tot.c tot.s tot.v tot.lo.f0 tot.lo.f1 tot.lo.f2 tot.hi.f0 tot.hi.f1 tot.hi.f2 = some true := by
  intro e
  induction e with
  | zero =>
    intro k i hi hk
    obtain ⟨k, rfl⟩ : ∃ m, k = (m + G.length + 1) + 1 := ⟨k - (G.length + 2), by omega⟩
    rw [tithebarnlaw24_GroupsTotal.l0, if_neg (by omega), if_pos rfl, hT k, hS k]
    simp [Sm.tup]
  | succ e ih =>
    intro k i hi hk'
    rw [Nat.succ_mul] at hk'
    obtain ⟨k, rfl⟩ : ∃ m, k = (m + rows.length + 1) + 1 := ⟨k - (rows.length + 2), by omega⟩
    have hlt : i < G.length := by omega
    rw [tithebarnlaw24_GroupsTotal.l0, if_pos (by omega)]
    have hm := hc _ (List.getElem_mem hlt)
    have := GroupsTotal.inner rows key G i hlt hG hR hk0 hk hz (hz2 _ (List.getElem_mem hlt)) 0 tot.c tot.s tot.v tot.lo.f0 tot.lo.f1 tot.lo.f2 tot.hi.f0 tot.hi.f1 tot.hi.f2 _ hm.1 hm.2 rows.length k 0 0 (by omega) (by omega) (by rw [List.drop_zero, Nat.zero_add])
    rw [show ((0 : Nat) : Int) = 0 from rfl] at this
    rw [this]
    exact ih k (i + 1) (by omega) (by omega)
theorem lives24_ge (K : Nat) (hK : 20 ≤ K) : tithebarnlaw24_lives.f K = some true := by
  have h : ∀ d, tithebarnlaw24_lives.f (20 + d) = some true := by
    intro d
    induction d with
    | zero => exact lives24
    | succ d ih => exact tithebarnlaw24_lives.mono (20 + d) true ih
  have := h (K - 20)
  rwa [show 20 + (K - 20) = K by omega] at this
theorem early24.is (l : List RowV) : tithebarnlaw24_early.f l = some (l.take (mn (l.length : Int) 150).toNat) := by
  unfold tithebarnlaw24_early.f
  rw [if_pos (by unfold mn; split <;> omega), if_pos (by unfold mn; split <;> omega)]
theorem nonbad {key col : Int} {r : RowV} (h : badB key col r = false) : noneB r col = false ∧ 0 ≤ key ∧ key < (r.length : Int) := by
  unfold badB at h
  rw [Bool.or_eq_false_iff] at h
  have h2 := h.2
  simp only [noneB, Bool.or_eq_false_iff, decide_eq_false_iff_not] at h2
  exact ⟨h.1, by omega, by omega⟩
theorem GroupsTotal_true (K : Nat) (hK : 100000 ≤ K) (l : List RowV) (key col : Int) (hl : ∀ r ∈ l, r.length ≤ 9223372036854775807) (hw : ∀ r ∈ l, ∀ x ∈ r, (Lit.int .i64 x.f1).wf = true) (hz : ∀ r ∈ l, ∀ x ∈ r, x.f2.size ≤ 9223372036854775807) : tithebarnlaw24_GroupsTotal.f K l key col = some true := by
  simp only [tithebarnlaw24_GroupsTotal.f, lives24_ge K (by omega), Option.bind_some, if_true, early24.is]
  have hsub : ∀ r ∈ l.take (mn (l.length : Int) 150).toNat, r ∈ l := fun r h => List.mem_of_mem_take h
  have hRl : (l.take (mn (l.length : Int) 150).toNat).length ≤ 150 := by rw [List.length_take]; unfold mn; split <;> omega
  generalize l.take (mn (l.length : Int) 150).toNat = rows at hsub hRl ⊢
  have hby := groups_By.is key col rows (by omega) (fun r h => hl r (hsub r h)) (K - (rows.length + 1 + rows.length + 1))
  rw [show K - (rows.length + 1 + rows.length + 1) + rows.length + 1 + rows.length + 1 = K by omega] at hby
  rw [hby]
  simp only [Option.bind_some, sums_Fold_c.f]
  by_cases hbad : rows.any (badB key col) = true
  · rw [if_pos hbad, if_neg (by decide)]
    rfl
  · rw [if_neg hbad, if_pos rfl]
    have hnb : ∀ r ∈ rows, badB key col r = false := fun r hr => by
      cases h : badB key col r with
      | false => rfl
      | true => exact absurd (List.any_eq_true.2 ⟨r, hr, h⟩) hbad
    have hno : ¬ rows.any (fun r => noneB r col) = true := fun h => by
      obtain ⟨r, hr, h⟩ := List.any_eq_true.1 h
      rw [(nonbad (hnb r hr)).1] at h; cases h
    rw [if_neg hno]
    have hwr : ∀ r ∈ rows, ∀ x ∈ r, (Lit.int .i64 x.f1).wf = true := fun r hr => hw r (hsub r hr)
    obtain ⟨G, hG, hGr⟩ := byV_groups key col rows (by omega) (fun r hr => rdT_wf r col (hwr r hr))
    have hfold := Says.ofRows col rows hwr (by omega)
    have htot := totV_says key col G zeroS [] Says.zero hGr.items (by rw [← hGr.perm.length_eq]; simp; omega)
    rw [List.nil_append] at htot
    have heq : totV zeroS (G.map Prod.fst) = foldV col zeroS rows := Says.only htot hfold (hGr.perm.symm.map _)
    have hGl : (byV key col rows).length ≤ 1000 := by
      rw [hG, List.length_map]
      have hb : ∀ G : List It, (∀ p ∈ G, Item key col p) → G.length ≤ (G.flatMap Prod.snd).length := by
        intro G
        induction G with
        | nil => intro _; simp
        | cons p G ih =>
          intro h
          obtain ⟨r, t, h1, _⟩ := (h p List.mem_cons_self).hd
          have := ih (fun q hq => h q (List.mem_cons_of_mem _ hq))
          rw [List.flatMap_cons, List.length_append, h1, List.length_cons, List.length_cons]
          omega
      have := hb G hGr.items
      rw [← hGr.perm.length_eq] at this
      omega
    have hkey : ∀ g ∈ byV key col rows, ∃ p ∈ G, p.1 = g := fun g hg => by rw [hG] at hg; obtain ⟨p, hp, h⟩ := List.mem_map.1 hg; exact ⟨p, hp, h⟩
    have hzr : ∀ r ∈ rows, (rd_T37 r key).f2.size ≤ 9223372036854775807 := fun r hr => rdT_sz r key (hz r (hsub r hr))
    have hzg : ∀ g ∈ byV key col rows, g.f0.f2.size ≤ 9223372036854775807 := fun g hg => by
      obtain ⟨p, hp, rfl⟩ := hkey g hg
      obtain ⟨r, t, h1, h2⟩ := (hGr.items p hp).hd
      rw [← h2]
      exact hzr r (hGr.perm.mem_iff.2 (List.mem_flatMap.2 ⟨p, hp, by rw [h1]; exact List.mem_cons_self⟩))
    have hcount : ∀ g ∈ byV key col rows, 0 < (rows.filter (fun r => eqK g.f0 (rd_T37 r key))).length ∧ g.f1.f0 = ((rows.filter (fun r => eqK g.f0 (rd_T37 r key))).length : Int) := fun g hg => by
      obtain ⟨p, hp, rfl⟩ := hkey g hg
      rw [hGr.flat p.1.f0, flat_of key col G hGr.items hGr.strict p hp]
      obtain ⟨r, t, h1, h2⟩ := (hGr.items p hp).hd
      refine ⟨by rw [h1]; simp, ?_⟩
      have := (hGr.items p hp).sums.c
      rw [show (colV p.2 col).length = p.2.length by simp [colV]] at this
      exact this
    have hk0 : ∀ r ∈ rows, 0 ≤ key ∧ key < (r.length : Int) := fun r hr => (nonbad (hnb r hr)).2
    have hstr : (byV key col rows).Pairwise (fun a b => lessV a.f0 b.f0 = true) := by
      rw [hG, List.pairwise_map]; exact hGr.strict
    have hcase : rows = [] ∨ 0 ≤ key := by
      cases hrr : rows with
      | nil => exact .inl rfl
      | cons r t => exact .inr (hk0 r (by rw [hrr]; exact List.mem_cons_self)).1
    have htt : ∀ k, groups_Total.f (k + (byV key col rows).length + 1) (byV key col rows) = some (foldV col zeroS rows).tup := fun k => by
      rw [groups_Total.is _ (by omega) k, ← heq, hG]
    have hss : ∀ k, tithebarnref24_Sorted.f (k + (byV key col rows).length + 1) (byV key col rows) = some true := fun k => Sorted.is _ (by omega) hzg hstr k
    have hfin : tithebarnlaw24_GroupsTotal.l0 K rows key (byV key col rows) 0 ((0 : Nat) : Int) (foldV col zeroS rows).c (foldV col zeroS rows).s (foldV col zeroS rows).v (foldV col zeroS rows).lo.f0 (foldV col zeroS rows).lo.f1 (foldV col zeroS rows).lo.f2 (foldV col zeroS rows).hi.f0 (foldV col zeroS rows).hi.f1 (foldV col zeroS rows).hi.f2 = some true := by
      have hb1 : (byV key col rows).length * (rows.length + 2) ≤ 150 * 152 := by
        have h1 : (byV key col rows).length ≤ rows.length := by
          have := (Stab.ssort_perm (lt := ltOf cfKey) (rows.map (mkG key col))).length_eq
          rw [hG, List.length_map]
          have hb : ∀ G : List It, (∀ p ∈ G, Item key col p) → G.length ≤ (G.flatMap Prod.snd).length := by
            intro G
            induction G with
            | nil => intro _; simp
            | cons p G ih =>
              intro h
              obtain ⟨r, t, h1, _⟩ := (h p List.mem_cons_self).hd
              have := ih (fun q hq => h q (List.mem_cons_of_mem _ hq))
              rw [List.flatMap_cons, List.length_append, h1, List.length_cons, List.length_cons]
              omega
          have := hb G hGr.items
          rw [← hGr.perm.length_eq] at this
          exact this
        exact Nat.mul_le_mul (by omega) (by omega)
      rcases hcase with he | h0
      · subst he
        have hbe : byV key col ([] : List RowV) = [] := rfl
        have := htt (K - 2)
        have h2 := hss (K - 2)
        rw [hbe] at this h2 ⊢
        obtain ⟨k, rfl⟩ : ∃ m, K = (m + 0 + 1) + 1 := ⟨K - 2, by omega⟩
        rw [tithebarnlaw24_GroupsTotal.l0, if_neg (by simp), if_pos rfl]
        rw [show k + 0 + 1 + 1 - 2 + ([] : List S49).length + 1 = k + 0 + 1 by simp] at this h2
        rw [this, h2]
        simp [Sm.tup]
      · exact GroupsTotal.outer rows key (byV key col rows) hGl (by omega) h0 (fun r hr => (hk0 r hr).2) hzr hzg hcount (foldV col zeroS rows) htt hss (byV key col rows).length K 0 (by omega) (by omega)
    exact hfin
theorem GroupsTotal_walk (W : World) (A0 : Option Addr) (c0 : Nat) (l0 : List (List (S37))) (hc0 : l0.length ≤ c0) (hr0 : Kd.C (Kd.slice 37 k37) W A0 l0.length l0) (b0 : BL (BL B37) l0 maxLen) (a1 : Int) (b1 : (Lit.int .i64 a1).wf = true) (a2 : Int) (b2 : (Lit.int .i64 a2).wf = true) :
    Calls Try.prog 11 #[.slice A0 l0.length c0, .int .i64 a1, .int .i64 a2] W fun e W' => e = .returned (.bool true) ∧ Below W.heap.size W W' := by
  obtain ⟨g0, g1⟩ := b0
  refine tithebarnlaw24_GroupsTotal.calls 100000 A0 c0 l0 a1 a2 true W hr0 hc0 (GroupsTotal_true 100000 (Nat.le_refl _) l0 a1 a2 (fun r hr => (g1 r hr).1) (fun r hr x hx => (B37_open ((g1 r hr).2 x hx)).2.1) (fun r hr x hx => (B37_open ((g1 r hr).2 x hx)).2.2))

end Go.Proofs.Ythlelhndmnkmjaa.Pr
