/- The greatest: their number, their order, and that none that is left out is greater. -/
import Derived.Test.YthlelhndmnkmjaaRdk
import Derived.Test.YthlelhndmnkmjaaPr0
import Derived.Test.YthlelhndmnkmjaaPrf24
import Derived.Test.YthlelhndmnkmjaaPrf52
import Derived.Test.YthlelhndmnkmjaaPrf9
import Derived.Test.YthlelhndmnkmjaaPrzGrp
namespace Go.Proofs.Ythlelhndmnkmjaa.Pr
open Go.RowKit Go.Proofs.Ythlelhndmnkmjaa.Brid Go.Proofs.YthlelhndmnkmjaaW.PrintWords Go.Proofs.YthlelhndmnkmjaaW.PrintLast Go.Proofs.YthlelhndmnkmjaaW.PrintMore
set_option linter.unusedVariables false
set_option linter.unusedSimpArgs false
def above (L : List S49) (s : Int) : Nat := L.countP (fun g => decide (g.f1.f1 > s))
theorem GroupsTop.inner (L T : List S49) (i : Nat) (hi : i < T.length) (hT : T.length ≤ 100) (hL : L.length ≤ 100) (s : Int) (hs : T[i].f1.f1 = s) (N : Nat) :
    ∀ (d k j c : Nat), j + d = L.length → c ≤ j → c + (L.drop j).countP (fun g => decide (g.f1.f1 > s)) = N →
    tithebarnlaw24_GroupsTop.l1 (k + d + 1) L T (i : Int) (c : Int) (j : Int) =
      (if N > i then some false else if 0 < i then (if (rd_T49 T ((i - 1 : Nat) : Int)).f1.f1 < s then some false else tithebarnlaw24_GroupsTop.l0 k L T ((i + 1 : Nat) : Int)) else tithebarnlaw24_GroupsTop.l0 k L T ((i + 1 : Nat) : Int)) := by
  intro d
  induction d with
  | zero =>
    intro k j c hj hc he
    have hjl : j = L.length := by omega
    subst hjl
    simp only [List.drop_length, List.countP_nil, Nat.add_zero] at he
    have hw : wrap64 ((i : Int) + 1) = ((i + 1 : Nat) : Int) := by rw [wr_small _ (by omega) (by omega)]; omega
    rw [tithebarnlaw24_GroupsTop.l1]
    rw [if_neg (by omega), hw]
    by_cases h1 : N > i
    · rw [if_pos h1, if_pos (by omega)]
    · rw [if_neg h1, if_neg (by omega)]
      by_cases h2 : 0 < i
      · have hw2 : wrap64 ((i : Int) - 1) = ((i - 1 : Nat) : Int) := by rw [wr_small _ (by omega) (by omega)]; omega
        rw [if_pos h2, if_pos (by omega), hw2, if_pos (by omega), if_pos (by omega), if_pos (by omega), if_pos (by omega), rdG_at T i hi, hs]
      · rw [if_neg h2, if_neg (by omega)]
  | succ d ih =>
    intro k j c hj hc he
    have hlt : j < L.length := by omega
    rw [List.drop_eq_getElem_cons hlt, List.countP_cons] at he
    rw [show k + (d + 1) + 1 = (k + d + 1) + 1 by omega, tithebarnlaw24_GroupsTop.l1]
    rw [if_pos (by omega), if_pos (by omega), if_pos (by omega), if_pos (by omega), rdG_at L j hlt, rdG_at T i hi, hs, wr_one j (by omega), wr_one c (by omega)]
    by_cases hgt : L[j].f1.f1 > s
    · rw [if_pos hgt]
      rw [decide_eq_true hgt, if_pos rfl] at he
      exact ih k (j + 1) (c + 1) (by omega) (by omega) (by omega)
    · rw [if_neg hgt]
      rw [decide_eq_false hgt, if_neg (by decide)] at he
      exact ih k (j + 1) c (by omega) (by omega) (by omega)
theorem GroupsTop.outer (L T : List S49) (hT : T.length ≤ 100) (hL : L.length ≤ 100)
    (h1 : ∀ i (hi : i < T.length), above L T[i].f1.f1 ≤ i) (h2 : ∀ i (hi : i < T.length), 0 < i → ¬ (T[i - 1]'(by omega)).f1.f1 < T[i].f1.f1) :
    ∀ (e k i : Nat), i + e = T.length → e * (L.length + 2) < k → tithebarnlaw24_GroupsTop.l0 k L T (i : Int) = some true := by
  intro e
  induction e with
  | zero =>
    intro k i hi hk
    obtain ⟨k, rfl⟩ : ∃ m, k = m + 1 := ⟨k - 1, by omega⟩
    simp only [tithebarnlaw24_GroupsTop.l0]
    rw [if_neg (by omega)]
  | succ e ih =>
    intro k i hi hk
    rw [Nat.succ_mul] at hk
    obtain ⟨k, rfl⟩ : ∃ m, k = m + L.length + 2 := ⟨k - (L.length + 2), by omega⟩
    have hlt : i < T.length := by omega
    rw [show k + L.length + 2 = (k + L.length + 1) + 1 by omega]
    simp only [tithebarnlaw24_GroupsTop.l0]
    rw [if_pos (by omega)]
    have := GroupsTop.inner L T i hlt hT hL _ rfl (above L T[i].f1.f1) L.length k 0 0 (by omega) (by omega) (by rw [List.drop_zero, Nat.zero_add]; rfl)
    rw [show ((0 : Nat) : Int) = 0 from rfl] at this
    rw [this, if_neg (by have := h1 i hlt; omega)]
    by_cases h0 : 0 < i
    · rw [if_pos h0, rdG_at T (i - 1) (by omega), if_neg (h2 i hlt h0), ih k (i + 1) (by omega) (by omega)]
    · rw [if_neg h0, ih k (i + 1) (by omega) (by omega)]
theorem topV_sorted (l : List S49) (i j : Nat) (hij : i < j) (hj : j < (Stab.ssort (ltOf cfTop) l).length) : ¬ ((Stab.ssort (ltOf cfTop) l)[i]'(by omega)).f1.f1 < (Stab.ssort (ltOf cfTop) l)[j].f1.f1 := by
  have := Stab.srt_get (Stab.srt_ssort cfTop_swo l) i j hij hj
  rw [cfTop_lt] at this
  exact of_decide_eq_false this
theorem above_le (l : List S49) (i : Nat) (hi : i < (Stab.ssort (ltOf cfTop) l).length) : above l (Stab.ssort (ltOf cfTop) l)[i].f1.f1 ≤ i := by
  unfold above
  rw [← (Stab.ssort_perm (lt := ltOf cfTop) l).countP_eq]
  have e : ∀ S : List S49, ∀ p : S49 → Bool, S.countP p = (S.take i).countP p + (S.drop i).countP p := fun S p => by rw [← List.countP_append, List.take_append_drop]
  rw [e]
  have h0 : ((Stab.ssort (ltOf cfTop) l).drop i).countP (fun g => decide (g.f1.f1 > (Stab.ssort (ltOf cfTop) l)[i].f1.f1)) = 0 := by
    rw [List.countP_eq_zero]
    intro x hx
    obtain ⟨j, hj, rfl⟩ := List.mem_iff_getElem.1 hx
    rw [List.length_drop] at hj
    rw [List.getElem_drop]
    simp only [decide_eq_true_eq]
    rcases Nat.eq_zero_or_pos j with h | h
    · subst h; simp
    · have := topV_sorted l i (i + j) (by omega) (by omega)
      omega
  have h1 := List.countP_le_length (l := (Stab.ssort (ltOf cfTop) l).take i) (p := fun g => decide (g.f1.f1 > (Stab.ssort (ltOf cfTop) l)[i].f1.f1))
  rw [List.length_take] at h1
  omega
theorem GroupsTop_true (K : Nat) (hK : 20000 ≤ K) (l : List S49) (n : Int) : tithebarnlaw24_GroupsTop.f K l n = some true := by
  have hm1 : 0 ≤ mn (l.length : Int) 100 := by unfold mn; split <;> omega
  have hm2 : mn (l.length : Int) 100 ≤ (l.length : Int) := by unfold mn; split <;> omega
  have hm3 : mn (l.length : Int) 100 ≤ 100 := by unfold mn; split <;> omega
  have hlv : tithebarnlaw24_lives.f K = some true := by
    have h : ∀ d, tithebarnlaw24_lives.f (20 + d) = some true := by
      intro d
      induction d with
      | zero => exact lives24
      | succ d ih => exact tithebarnlaw24_lives.mono (20 + d) true ih
    have := h (K - 20)
    rwa [show 20 + (K - 20) = K by omega] at this
  simp only [tithebarnlaw24_GroupsTop.f, hlv, Option.bind_some, if_true]
  rw [if_pos hm1, if_pos hm2]
  generalize hL : l.take (mn (l.length : Int) 100).toNat = L
  have hLl : L.length ≤ 100 := by rw [← hL, List.length_take]; omega
  rw [groups_Top.is L n (by omega)]
  simp only [Option.bind_some]
  have hTl : (topV L n).length = (mn (mx n 0) (L.length : Int)).toNat := by
    unfold topV; rw [List.length_take, ssortG_len]; unfold mn mx; split <;> split <;> omega
  have hmn : 0 ≤ mn (mx n 0) (L.length : Int) ∧ mn (mx n 0) (L.length : Int) ≤ (L.length : Int) := by unfold mn mx; split <;> split <;> omega
  rw [if_pos (by rw [hTl]; omega)]
  have hT : (topV L n).length ≤ 100 := by rw [hTl]; omega
  have hTs : (topV L n).length ≤ (Stab.ssort (ltOf cfTop) L).length := by rw [ssortG_len, hTl]; omega
  have hg : ∀ i (hi : i < (topV L n).length), (topV L n)[i] = (Stab.ssort (ltOf cfTop) L)[i]'(by omega) := fun i hi => by simp [topV]
  have hk : (topV L n).length * (L.length + 2) < K := by
    have : (topV L n).length * (L.length + 2) ≤ 100 * 102 := Nat.mul_le_mul hT (by omega)
    omega
  have := GroupsTop.outer L (topV L n) hT hLl (fun i hi => by rw [hg i hi]; exact above_le L i (by omega)) (fun i hi h0 => by rw [hg i hi, hg (i - 1) (by omega)]; exact topV_sorted L (i - 1) i (by omega) (by omega)) (topV L n).length K 0 (by omega) hk
  rw [show ((0 : Nat) : Int) = 0 from rfl] at this
  exact this
theorem GroupsTop_walk (W : World) (A0 : Option Addr) (c0 : Nat) (l0 : List (S49)) (hc0 : l0.length ≤ c0) (hr0 : Kd.C k49 W A0 l0.length l0) (b0 : BL B49 l0 maxLen) (a1 : Int) (b1 : (Lit.int .i64 a1).wf = true) :
    Calls Try.prog 9 #[.slice A0 l0.length c0, .int .i64 a1] W fun e W' => e = .returned (.bool true) ∧ Below W.heap.size W W' := tithebarnlaw24_GroupsTop.calls 20000 A0 c0 l0 a1 true W hr0 hc0 (GroupsTop_true 20000 (Nat.le_refl _) l0 a1)

end Go.Proofs.Ythlelhndmnkmjaa.Pr
