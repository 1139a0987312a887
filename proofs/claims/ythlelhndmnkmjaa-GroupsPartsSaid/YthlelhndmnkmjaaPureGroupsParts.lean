/- The groups of two lists of rows, one behind the other, are Join of theirs. -/
import Derived.Test.YthlelhndmnkmjaaRdk
import Derived.Test.YthlelhndmnkmjaaPr0
import Derived.Test.YthlelhndmnkmjaaPrf12
import Derived.Test.YthlelhndmnkmjaaPrf24
import Derived.Test.YthlelhndmnkmjaaPrf26
import Derived.Test.YthlelhndmnkmjaaPrf27
import Derived.Test.YthlelhndmnkmjaaPrf29
import Derived.Test.YthlelhndmnkmjaaPrf35
import Derived.Test.YthlelhndmnkmjaaPrf41
import Derived.Test.YthlelhndmnkmjaaPrf56
import Derived.Test.YthlelhndmnkmjaaPrf60
import Derived.Test.YthlelhndmnkmjaaPrf64
import Derived.Test.YthlelhndmnkmjaaPrf65
import Derived.Test.YthlelhndmnkmjaaPrz25
import Derived.Test.YthlelhndmnkmjaaPrzGrp
import Derived.Test.YthlelhndmnkmjaaPrzGrp2
import Derived.Test.YthlelhndmnkmjaaPrzGrp3
import Derived.Test.YthlelhndmnkmjaaPrzGrp4
import Derived.Test.YthlelhndmnkmjaaPrzSums
import Derived.Test.YthlelhndmnkmjaaThy
namespace Go.Proofs.Ythlelhndmnkmjaa.Pr
open Go.RowKit Go.Proofs.Ythlelhndmnkmjaa.Brid Go.Proofs.YthlelhndmnkmjaaW.PrintWords Go.Proofs.YthlelhndmnkmjaaW.PrintLast Go.Proofs.YthlelhndmnkmjaaW.PrintMore
set_option linter.unusedVariables false
set_option linter.unusedSimpArgs false
theorem Same.loop (l : List S49) (hl : l.length ≤ 1000000000) : ∀ (d k n : Nat), n + d = l.length → tithebarnref24_Same.l0 (k + d + 1) l l (n : Int) = some true := by
  intro d
  induction d with
  | zero =>
    intro k n hn
    rw [tithebarnref24_Same.l0, if_neg (by omega)]
  | succ d ih =>
    intro k n hn
    rw [show k + (d + 1) + 1 = (k + d + 1) + 1 by omega, tithebarnref24_Same.l0, if_pos (by omega), if_pos (by omega), if_pos (by omega), if_neg (by simp), wr_one n (by omega)]
    exact ih k (n + 1) (by omega)
theorem Same.self (l : List S49) (hl : l.length ≤ 1000000000) (k : Nat) : tithebarnref24_Same.f (k + l.length + 1) l l = some true := by
  unfold tithebarnref24_Same.f
  rw [if_pos rfl]
  exact Same.loop l hl l.length k 0 (by omega)
theorem gsorted.loop (l : List S49) (hl : l.length ≤ 1000000000) (hp : l.Pairwise (fun a b => lessV a.f0 b.f0 = true)) : ∀ (d k n : Nat), n + d = l.length → 0 < n →
    groups_sorted.l0 (k + d + 1) l (n : Int) = some true := by
  intro d
  induction d with
  | zero =>
    intro k n hn h0
    rw [groups_sorted.l0, if_neg (by omega)]
  | succ d ih =>
    intro k n hn h0
    have hlt : n < l.length := by omega
    have hw : ∀ m : Nat, m ≤ 1000000000 → 0 < m → wrap64 ((m : Int) - 1) = ((m - 1 : Nat) : Int) := fun m h1 h2 => by rw [wr_small _ (by omega) (by omega)]; omega
    rw [show k + (d + 1) + 1 = (k + d + 1) + 1 by omega, groups_sorted.l0, if_pos (by omega), hw n (by omega) h0, if_pos (by omega), if_pos (by omega), if_pos (by omega), rdG_at l n hlt, rdG_at l (n - 1) (by omega), wr_one n (by omega)]
    have := List.pairwise_iff_getElem.1 hp (n - 1) n (by omega) hlt (by omega)
    have h2 : Thy.cmpV l[n - 1].f0.f0 l[n - 1].f0.f1 l[n - 1].f0.f2 l[n].f0.f0 l[n].f0.f1 l[n].f0.f2 < 0 := Thy.cmpV_lt.2 this
    simp only [groups_byKey.f, kinds_Compare_c.f, Option.bind_some]
    rw [if_neg (by omega)]
    exact ih k (n + 1) (by omega) (by omega)
theorem groups_sorted.is (l : List S49) (hl : l.length ≤ 1000000000) (hp : l.Pairwise (fun a b => lessV a.f0 b.f0 = true)) (k : Nat) : groups_sorted.f (k + l.length + 1) l = some true := by
  unfold groups_sorted.f
  cases l with
  | nil => rw [List.length_nil, Nat.add_zero, groups_sorted.l0]; rfl
  | cons g r =>
    have := gsorted.loop (g :: r) hl hp r.length (k + 1) 1 (by simp; omega) (by omega)
    rw [show k + 1 + r.length + 1 = k + (g :: r).length + 1 by simp; omega] at this
    exact this
theorem groups_Join.is (a b : List S49) (ha : a.length ≤ 1000000) (hb : b.length ≤ 1000000) (pa : a.Pairwise (fun a b => lessV a.f0 b.f0 = true)) (pb : b.Pairwise (fun a b => lessV a.f0 b.f0 = true)) (K : Nat) (hK : 3000000 ≤ K) :
    groups_Join.f K a b = some (gatherV (Stab.ssort (ltOf cfKey) (a ++ b)), 0) := by
  have s1 := groups_sorted.is a (by omega) pa (K - (a.length + 1))
  rw [show K - (a.length + 1) + a.length + 1 = K by omega] at s1
  have s2 := groups_sorted.is b (by omega) pb (K - (b.length + 1))
  rw [show K - (b.length + 1) + b.length + 1 = K by omega] at s2
  obtain ⟨k, rfl⟩ : ∃ k, K = k + 1 := ⟨K - 1, by omega⟩
  simp only [groups_Join.f, s1, s2, Option.bind_some, if_true, Bool.not_true]
  rw [groups_Join.j0, if_neg (by decide)]
  have hf : ([a, b] : List (List S49)).flatten = a ++ b := by simp
  simp only [concatG.f, hf]
  rw [if_pos (by rw [List.length_append]; omega)]
  simp only [Option.bind_some, sortKey.f]
  rw [if_pos (by rw [List.length_append]; omega)]
  simp only [Option.bind_some]
  have hg := groups_gather.is (Stab.ssort (ltOf cfKey) (a ++ b)) (by rw [sortKey_len, List.length_append]; omega) (k - (a.length + b.length + 1))
  rw [sortKey_len, List.length_append, show k - (a.length + b.length + 1) + (a.length + b.length) + 1 = k by omega] at hg
  rw [hg]
  rfl
theorem lives24_gp (K : Nat) (hK : 20 ≤ K) : tithebarnlaw24_lives.f K = some true := by
  have h : ∀ d, tithebarnlaw24_lives.f (20 + d) = some true := by
    intro d
    induction d with
    | zero => exact lives24
    | succ d ih => exact tithebarnlaw24_lives.mono (20 + d) true ih
  have := h (K - 20)
  rwa [show 20 + (K - 20) = K by omega] at this
theorem early24.is_gp (l : List RowV) : tithebarnlaw24_early.f l = some (l.take (mn (l.length : Int) 150).toNat) := by
  unfold tithebarnlaw24_early.f
  rw [if_pos (by unfold mn; split <;> omega), if_pos (by unfold mn; split <;> omega)]
theorem Grouped.few {key col : Int} {rows : List RowV} {G : List It} (h : Grouped key col rows G) : G.length ≤ rows.length := by
  have hb : ∀ G : List It, (∀ p ∈ G, Item key col p) → G.length ≤ (G.flatMap Prod.snd).length := by
    intro G
    induction G with
    | nil => intro _; simp
    | cons p G ih =>
      intro h
      obtain ⟨r, t, h1, _⟩ := (h p List.mem_cons_self).hd
      have := ih (fun q hq => h q (List.mem_cons_of_mem _ hq))
      rw [List.flatMap_cons, List.length_append, h1, List.length_cons, List.length_cons]
      omega
  have := hb G h.items
  rw [← h.perm.length_eq] at this
  exact this
theorem By_K (key col : Int) (rows : List RowV) (hl : rows.length ≤ 1000) (hr : ∀ r ∈ rows, r.length ≤ 9223372036854775807) (K : Nat) (hK : 4000 ≤ K) : groups_By.f K rows key col = some (if rows.any (badB key col) then ([], 7) else (byV key col rows, 0)) := by
  have := groups_By.is key col rows (by omega) hr (K - (rows.length + 1 + rows.length + 1))
  rwa [show K - (rows.length + 1 + rows.length + 1) + rows.length + 1 + rows.length + 1 = K by omega] at this
theorem GroupsParts_true (K : Nat) (hK : 4000000 ≤ K) (l1 l2 : List RowV) (key col : Int) (hl1 : ∀ r ∈ l1, r.length ≤ 9223372036854775807) (hl2 : ∀ r ∈ l2, r.length ≤ 9223372036854775807)
    (hw1 : ∀ r ∈ l1, ∀ x ∈ r, (Lit.int .i64 x.f1).wf = true) (hw2 : ∀ r ∈ l2, ∀ x ∈ r, (Lit.int .i64 x.f1).wf = true) : tithebarnlaw24_GroupsParts.f K l1 l2 key col = some true := by
  simp only [tithebarnlaw24_GroupsParts.f, lives24_gp K (by omega), Option.bind_some, if_true, early24.is_gp]
  have hs1 : ∀ r ∈ l1.take (mn (l1.length : Int) 150).toNat, r ∈ l1 := fun r h => List.mem_of_mem_take h
  have hs2 : ∀ r ∈ l2.take (mn (l2.length : Int) 150).toNat, r ∈ l2 := fun r h => List.mem_of_mem_take h
  have hR1 : (l1.take (mn (l1.length : Int) 150).toNat).length ≤ 150 := by rw [List.length_take]; unfold mn; split <;> omega
  have hR2 : (l2.take (mn (l2.length : Int) 150).toNat).length ≤ 150 := by rw [List.length_take]; unfold mn; split <;> omega
  generalize l1.take (mn (l1.length : Int) 150).toNat = a at hs1 hR1 ⊢
  generalize l2.take (mn (l2.length : Int) 150).toNat = b at hs2 hR2 ⊢
  have hla : ∀ r ∈ a, r.length ≤ 9223372036854775807 := fun r h => hl1 r (hs1 r h)
  have hlb : ∀ r ∈ b, r.length ≤ 9223372036854775807 := fun r h => hl2 r (hs2 r h)
  have hlab : ∀ r ∈ a ++ b, r.length ≤ 9223372036854775807 := fun r h => by
    rcases List.mem_append.1 h with h | h
    · exact hla r h
    · exact hlb r h
  rw [By_K key col a (by omega) hla K (by omega), By_K key col b (by omega) hlb K (by omega)]
  simp only [Option.bind_some, List.nil_append, List.length_nil, Nat.zero_add]
  rw [if_pos (by omega), if_pos (by omega), By_K key col (a ++ b) (by rw [List.length_append]; omega) hlab K (by omega), List.any_append]
  simp only [Option.bind_some]
  obtain ⟨k, rfl⟩ : ∃ k, K = k + 1 := ⟨K - 1, by omega⟩
  cases ba : a.any (badB key col) with
  | true =>
    simp only [if_true, Bool.true_or]
    rw [if_neg (by decide), tithebarnlaw24_GroupsParts.j0, if_pos rfl, if_pos rfl]
    rfl
  | false =>
    simp only [Bool.false_eq_true, if_false, Bool.false_or]
    rw [if_pos trivial]
    cases bb : b.any (badB key col) with
    | true =>
      simp only [if_true]
      rw [tithebarnlaw24_GroupsParts.j0, if_pos (by decide)]
      rfl
    | false =>
      simp only [Bool.false_eq_true, if_false]
      obtain ⟨GA, ea, ga⟩ := byV_groups key col a (by omega) (fun r hr => rdT_wf r col (hw1 r (hs1 r hr)))
      obtain ⟨GB, eb, gb⟩ := byV_groups key col b (by omega) (fun r hr => rdT_wf r col (hw2 r (hs2 r hr)))
      obtain ⟨GC, ec, gc⟩ := byV_groups key col (a ++ b) (by rw [List.length_append]; omega) (fun r hr => by
        rcases List.mem_append.1 hr with h | h
        · exact rdT_wf r col (hw1 r (hs1 r h))
        · exact rdT_wf r col (hw2 r (hs2 r h)))
      obtain ⟨GD, ed, gd⟩ := Grouped.join ga gb (by omega)
      have he : GD = GC := Grouped.only gd gc
      have hfa := ga.few
      have hfb := gb.few
      have hfc := gc.few
      rw [List.length_append] at hfc
      rw [tithebarnlaw24_GroupsParts.j0, if_neg (by decide), ea, eb, ec]
      rw [groups_Join.is (GA.map Prod.fst) (GB.map Prod.fst) (by rw [List.length_map]; omega) (by rw [List.length_map]; omega) (by rw [List.pairwise_map]; exact ga.strict) (by rw [List.pairwise_map]; exact gb.strict) k (by omega), ed, he]
      simp only [Option.bind_some, if_true]
      have := Same.self (GC.map Prod.fst) (by rw [List.length_map]; omega) (k - (GC.length + 1))
      rw [List.length_map, show k - (GC.length + 1) + GC.length + 1 = k by omega] at this
      rw [this]
      rfl
theorem GroupsParts_walk (W : World) (A0 : Option Addr) (c0 : Nat) (l0 : List (List (S37))) (hc0 : l0.length ≤ c0) (hr0 : Kd.C (Kd.slice 37 k37) W A0 l0.length l0) (b0 : BL (BL B37) l0 maxLen) (A1 : Option Addr) (c1 : Nat) (l1 : List (List (S37))) (hc1 : l1.length ≤ c1) (hr1 : Kd.C (Kd.slice 37 k37) W A1 l1.length l1) (b1 : BL (BL B37) l1 maxLen) (a2_0 a2_1 : Int) (b2_0 : (Lit.int .i64 a2_0).wf = true) (b2_1 : (Lit.int .i64 a2_1).wf = true) :
    Calls Try.prog 12 #[.slice A0 l0.length c0, .slice A1 l1.length c1, .agg #[.int .i64 a2_0, .int .i64 a2_1]] W fun e W' => e = .returned (.bool true) ∧ Below W.heap.size W W' := by
  obtain ⟨g0, g1⟩ := b0
  obtain ⟨g2, g3⟩ := b1
  exact tithebarnlaw24_GroupsParts.calls 4000000 A0 c0 l0 A1 c1 l1 a2_0 a2_1 true W hr0 hc0 hr1 hc1 (GroupsParts_true 4000000 (Nat.le_refl _) l0 l1 a2_0 a2_1 (fun r hr => (g1 r hr).1) (fun r hr => (g3 r hr).1) (fun r hr x hx => (B37_open ((g1 r hr).2 x hx)).2.1) (fun r hr x hx => (B37_open ((g3 r hr).2 x hx)).2.1))

end Go.Proofs.Ythlelhndmnkmjaa.Pr
