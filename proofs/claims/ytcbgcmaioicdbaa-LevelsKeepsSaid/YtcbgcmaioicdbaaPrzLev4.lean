/- Levels: Ids that are unlike, parts that are well, levels that are disjoint, as relations of pairs; lists in order that are the same. -/
import Derived.Test.YtcbgcmaioicdbaaRdk
import Derived.Test.YtcbgcmaioicdbaaPr0
import Derived.Test.YtcbgcmaioicdbaaPrf17
import Derived.Test.YtcbgcmaioicdbaaPrf22
import Derived.Test.YtcbgcmaioicdbaaPrf25
import Derived.Test.YtcbgcmaioicdbaaPrf35xc
import Derived.Test.YtcbgcmaioicdbaaPrzLev
import Derived.Test.YtcbgcmaioicdbaaPrzLev3
namespace Go.Proofs.Ytcbgcmaioicdbaa.Pr
open Go.RowKit Go.Proofs.Ytcbgcmaioicdbaa.Brid Go.Proofs.YtcbgcmaioicdbaaW.PrintWords Go.Proofs.YtcbgcmaioicdbaaW.PrintLast Go.Proofs.YtcbgcmaioicdbaaW.PrintMore
set_option linter.unusedVariables false
set_option linter.unusedSimpArgs false
theorem ovV_comm (a b : Pt) : ovV a b = ovV b a := by unfold ovV; rw [Bool.and_comm]
/-- of two parts of one level, the later one after the earlier one -/
def DisR (b a : Pt) : Prop := a.f1 ≠ 0 → a.f1 = b.f1 → ovV a b = false
theorem DisR.symm (a b : Pt) (h : DisR a b) : DisR b a := fun h0 h1 => by rw [ovV_comm]; exact h (by rw [← h1]; exact h0) h1.symm
theorem badV_iff (l : List Pt) (n : Nat) (hn : n < l.length) : badV l n = false ↔ ∀ j (hj : j < n), DisR (l[j]'(by omega)) l[n] := by
 unfold badV DisR
 rw [rdP_at l n hn]
 constructor
 ·intro h j hj h0 h1
  cases hx : ovV l[n] (l[j]'(by omega)) with
  | false => rfl
  | true =>
   exfalso
   have e0 : (l[n].f1 != 0) = true := bne_iff_ne.2 h0
   rw [e0, Bool.true_and] at h
   have := List.any_eq_false.1 h (l[j]'(by omega)) (List.mem_take_iff_getElem.2 ⟨j, by omega, rfl⟩)
   rw [hx, beq_iff_eq.2 h1] at this
   exact this rfl
 ·intro h
  by_cases h0 : l[n].f1 = 0
  ·rw [bne_eq_false_iff_eq.2 h0]; rfl
  ·rw [bne_iff_ne.2 h0, Bool.true_and]
   refine List.any_eq_false.2 (fun b hb => ?_)
   obtain ⟨j, hj, rfl⟩ := List.mem_take_iff_getElem.1 hb
   by_cases h1 : l[n].f1 = (l[j]'(by omega)).f1
   ·rw [h j (by omega) h0 h1, Bool.and_false]; exact Bool.false_ne_true
   ·rw [beq_eq_false_iff_ne.2 h1]; exact Bool.false_ne_true
theorem disF_iff (l : List Pt) : ∀ (m n : Nat), disF l m n = true ↔ ∀ i, n ≤ i → i < n + m → badV l i = false
 | 0, n => ⟨fun _ i h1 h2 => by omega, fun _ => rfl⟩
 | m + 1, n => by
  unfold disF
  cases hb : badV l n with
  | true => exact ⟨fun h => by simp at h, fun h => by rw [h n (Nat.le_refl _) (by omega)] at hb; cases hb⟩
  | false =>
   rw [if_neg (by decide), disF_iff l m (n + 1)]
   refine ⟨fun h i h1 h2 => ?_, fun h i h1 h2 => h i (by omega) (by omega)⟩
   by_cases hi : i = n
   ·rw [hi]; exact hb
   ·exact h i (by omega) (by omega)
theorem disV_iff (l : List Pt) : disV l = true ↔ l.Pairwise DisR := by
 unfold disV
 rw [disF_iff, List.pairwise_iff_getElem]
 constructor
 ·intro h i j hi hj hij
  exact (badV_iff l j hj).1 (h j (by omega) (by omega)) i hij
 ·intro h i _ hi
  exact (badV_iff l i (by omega)).2 (fun j hj => h j i (by omega) (by omega) hj)
theorem mem_pair {R : Pt → Pt → Prop} (hs : ∀ a b, R a b → R b a) : ∀ {l : List Pt}, l.Pairwise R → ∀ a ∈ l, ∀ b ∈ l, a = b ∨ R a b
 | [], _, a, ha, _, _ => by cases ha
 | x :: l, h, a, ha, b, hb => by
  have h' := List.pairwise_cons.1 h
  rcases List.mem_cons.1 ha with rfl | ha2
  ·rcases List.mem_cons.1 hb with rfl | hb2
   ·exact .inl rfl
   ·exact .inr (h'.1 b hb2)
  ·rcases List.mem_cons.1 hb with rfl | hb2
   ·exact .inr (hs _ _ (h'.1 a ha2))
   ·exact mem_pair hs h'.2 a ha2 b hb2
/-! unlike, well -/
def UnR (b a : Pt) : Prop := a.f0 ≠ b.f0
theorem UnR.symm (a b : Pt) (h : UnR a b) : UnR b a := fun e => h e.symm
def likeV (l : List Pt) (n : Nat) : Bool := (l.take n).any (fun b => (rd_T38 l (n : Int)).f0 == b.f0)
def unF (l : List Pt) : Nat → Nat → Bool
 | 0, _ => true
 | m + 1, n => if likeV l n = true then false else unF l m (n + 1)
def unV (l : List Pt) : Bool := unF l l.length 0
theorem unlike.inner (l : List Pt) (hl : l.length ≤ 1000) (n : Nat) (hn : n < l.length) (R : Option Bool) (K : Nat) (hc : ∀ k, K ≤ k → tithebarnlaw17_unlike.l0 k l ((n + 1 : Nat) : Int) = R) :
  ∀ (d j : Nat), n - j = d → j ≤ n → ∀ k, K + d + 1 ≤ k →
  tithebarnlaw17_unlike.l1 k l (n : Int) (j : Int) = if (((l.take n).drop j).any (fun b => l[n].f0 == b.f0)) = true then some false else R := by
 intro d
 induction d with
 | zero =>
  intro j hd hj k hk
  obtain ⟨k, rfl⟩ : ∃ k', k = k' + 1 := ⟨k - 1, by omega⟩
  rw [tithebarnlaw17_unlike.l1, if_neg (by omega), wr_one n (by omega), hc k (by omega), List.drop_eq_nil_of_le (by rw [List.length_take]; omega)]
  simp
 | succ d ih =>
  intro j hd hj k hk
  obtain ⟨k, rfl⟩ : ∃ k', k = k' + 1 := ⟨k - 1, by omega⟩
  have hlt : j < l.length := by omega
  have hjt : j < (l.take n).length := by rw [List.length_take]; omega
  have hdd : (l.take n).drop j = l[j] :: (l.take n).drop (j + 1) := by rw [List.drop_eq_getElem_cons hjt, List.getElem_take]
  rw [tithebarnlaw17_unlike.l1, if_pos (by omega), if_pos (by omega), if_pos (by omega), if_pos (by omega), if_pos (by omega), rdP_at l n hn, rdP_at l j hlt, wr_one j (by omega), ih (j + 1) (by omega) (by omega) k (by omega), hdd, List.any_cons]
  by_cases c1 : l[n].f0 = l[j].f0
  ·have e1 : (l[n].f0 == l[j].f0) = true := beq_iff_eq.2 c1
   rw [if_pos c1, e1]; rfl
  ·have e1 : (l[n].f0 == l[j].f0) = false := beq_eq_false_iff_ne.2 c1
   rw [if_neg c1, e1]; rfl
theorem unlike.loop (l : List Pt) (hl : l.length ≤ 1000) : ∀ (m n : Nat), l.length - n = m → n ≤ l.length → ∀ k, m * (l.length + 3) < k → tithebarnlaw17_unlike.l0 k l (n : Int) = some (unF l m n) := by
 intro m
 induction m with
 | zero =>
  intro n hm hn k hk
  obtain ⟨k, rfl⟩ : ∃ k', k = k' + 1 := ⟨k - 1, by omega⟩
  rw [tithebarnlaw17_unlike.l0, if_neg (by omega)]; rfl
 | succ m ih =>
  intro n hm hn k hk
  rw [Nat.succ_mul] at hk
  obtain ⟨k, rfl⟩ : ∃ k', k = k' + 1 := ⟨k - 1, by omega⟩
  have hlt : n < l.length := by omega
  have h := unlike.inner l hl n hlt (some (unF l m (n + 1))) (m * (l.length + 3) + 1) (fun k hk => ih (n + 1) (by omega) (by omega) k (by omega)) n 0 (by omega) (by omega) k (by omega)
  rw [tithebarnlaw17_unlike.l0, if_pos (by omega), unF]
  refine h.trans ?_
  unfold likeV
  rw [rdP_at l n hlt, List.drop_zero]
  split <;> rfl
theorem unlike.is (l : List Pt) (hl : l.length ≤ 80) (k : Nat) (hk : 7000 ≤ k) : tithebarnlaw17_unlike.f k l = some (unV l) := by
 have h1 : l.length * (l.length + 3) ≤ 80 * 83 := Nat.mul_le_mul (by omega) (by omega)
 unfold tithebarnlaw17_unlike.f
 exact unlike.loop l (by omega) l.length 0 (by omega) (by omega) k (by omega)
theorem unF_true (l : List Pt) : ∀ (m n : Nat), unF l m n = true → ∀ i, n ≤ i → i < n + m → likeV l i = false
 | 0, n, _, i, h1, h2 => by omega
 | m + 1, n, h, i, h1, h2 => by
  unfold unF at h
  cases hb : likeV l n with
  | true => rw [hb, if_pos rfl] at h; cases h
  | false =>
   rw [hb, if_neg (by decide)] at h
   by_cases hi : i = n
   ·rw [hi]; exact hb
   ·exact unF_true l m (n + 1) h i (by omega) (by omega)
theorem unV_pair (l : List Pt) (h : unV l = true) : l.Pairwise UnR := by
 rw [List.pairwise_iff_getElem]
 intro i j hi hj hij he
 have hf := unF_true l l.length 0 h j (by omega) (by omega)
 unfold likeV at hf
 rw [rdP_at l j hj] at hf
 have := List.any_eq_false.1 hf l[i] (List.mem_take_iff_getElem.2 ⟨i, by omega, rfl⟩)
 exact this (beq_iff_eq.2 he)
theorem unV_same (l : List Pt) (h : unV l = true) (a b : Pt) (ha : a ∈ l) (hb : b ∈ l) (he : a.f0 = b.f0) : a = b := by
 rcases mem_pair UnR.symm (unV_pair l h) a ha b hb with h | h
 ·exact h
 ·exact absurd he.symm h
theorem well.loop (l : List Pt) (hl : l.length ≤ 1000) (hok : ∀ p ∈ l, OkP p) : ∀ (m n : Nat), l.length - n = m → n ≤ l.length → ∀ k, m < k → tithebarnlaw17_well.l0 k l (n : Int) = some ((l.drop n).all (fun p => ovV p p)) := by
 intro m
 induction m with
 | zero =>
  intro n hm hn k hk
  obtain ⟨k, rfl⟩ : ∃ k', k = k' + 1 := ⟨k - 1, by omega⟩
  obtain rfl : n = l.length := by omega
  rw [tithebarnlaw17_well.l0, if_neg (by omega), List.drop_length]; rfl
 | succ m ih =>
  intro n hm hn k hk
  obtain ⟨k, rfl⟩ : ∃ k', k = k' + 1 := ⟨k - 1, by omega⟩
  have hlt : n < l.length := by omega
  have hd : l.drop n = l[n] :: l.drop (n + 1) := List.drop_eq_getElem_cons hlt
  have hok1 := hok _ (List.getElem_mem hlt)
  rw [tithebarnlaw17_well.l0, if_pos (by omega), if_pos (by omega), rdP_at l n hlt, wr_one n (by omega), refOverlap.is _ _ hok1 hok1, Option.bind_some, ih (n + 1) (by omega) (by omega) k (by omega), hd, List.all_cons]
  cases ovV l[n] l[n] <;> rfl
theorem well.is (l : List Pt) (hl : l.length ≤ 1000) (hok : ∀ p ∈ l, OkP p) (k : Nat) (hk : l.length < k) : tithebarnlaw17_well.f k l = some (l.all (fun p => ovV p p)) := by
 unfold tithebarnlaw17_well.f
 exact well.loop l hl hok l.length 0 (by omega) (by omega) k hk
/-! lists in order that are the same -/
theorem srt_only {lt : Pt → Pt → Bool} : ∀ {A B : List Pt}, A.Perm B → Stab.Srt lt A → Stab.Srt lt B → (∀ a ∈ A, ∀ b ∈ A, lt a b = false → lt b a = false → a = b) → A = B
 | [], B, hp, _, _, _ => by rw [List.nil_perm.1 hp]
 | x :: A, [], hp, _, _, _ => by have := hp.length_eq; simp at this
 | x :: A, y :: B, hp, ha, hb, he => by
  have ha' := List.pairwise_cons.1 ha
  have hb' := List.pairwise_cons.1 hb
  have hxy : x = y := by
   have hx : x ∈ y :: B := hp.mem_iff.1 List.mem_cons_self
   have hy : y ∈ x :: A := hp.mem_iff.2 List.mem_cons_self
   rcases List.mem_cons.1 hx with h | hx
   ·exact h
   ·rcases List.mem_cons.1 hy with h | hy2
    ·exact h.symm
    ·exact he x List.mem_cons_self y hy (hb'.1 x hx) (ha'.1 y hy2)
  subst hxy
  rw [srt_only (List.Perm.cons_inv hp) ha'.2 hb'.2 (fun a h1 b h2 => he a (List.mem_cons_of_mem _ h1) b (List.mem_cons_of_mem _ h2))]
theorem minOf_le : ∀ (t : List Pt) (x : Pt), ∀ y ∈ x :: t, (Stab.minOf cfId x t).f0 ≤ y.f0
 | [], x, y, hy => by rw [List.mem_singleton.1 hy]; exact Int.le_refl _
 | z :: t, x, y, hy => by
  have hstep : Stab.minOf cfId x (z :: t) = Stab.minOf cfId (if cfId z x < 0 then z else x) t := rfl
  rw [hstep]
  have h := minOf_le t (if cfId z x < 0 then z else x)
  have h0 := h _ List.mem_cons_self
  have hle : (if cfId z x < 0 then z else x).f0 ≤ x.f0 ∧ (if cfId z x < 0 then z else x).f0 ≤ z.f0 := by
   by_cases c : cfId z x < 0
   ·rw [if_pos c]; have := (cfId_neg z x).1 c; omega
   ·rw [if_neg c]; have : ¬ z.f0 < x.f0 := fun h => c ((cfId_neg z x).2 h); omega
  rcases List.mem_cons.1 hy with rfl | hy
  ·omega
  ·rcases List.mem_cons.1 hy with rfl | hy
   ·omega
   ·exact h y (List.mem_cons_of_mem _ hy)

end Go.Proofs.Ytcbgcmaioicdbaa.Pr
