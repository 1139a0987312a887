/- Levels: what the printed texts compute, in plain words. -/
import Derived.Test.YtcbgcmaioicdbaaRdk
import Derived.Test.YtcbgcmaioicdbaaPr0
import Derived.Test.YtcbgcmaioicdbaaPrf20
import Derived.Test.YtcbgcmaioicdbaaPrf23
import Derived.Test.YtcbgcmaioicdbaaPrf24
import Derived.Test.YtcbgcmaioicdbaaPrf25
import Derived.Test.YtcbgcmaioicdbaaPrf35xc
import Derived.Test.YtcbgcmaioicdbaaPrf38
import Derived.Test.YtcbgcmaioicdbaaPrf42
import Derived.Test.YtcbgcmaioicdbaaThy
namespace Go.Proofs.Ytcbgcmaioicdbaa.Pr
open Go.RowKit Go.Proofs.Ytcbgcmaioicdbaa.Brid Go.Proofs.YtcbgcmaioicdbaaW.PrintWords Go.Proofs.YtcbgcmaioicdbaaW.PrintLast Go.Proofs.YtcbgcmaioicdbaaW.PrintMore
set_option linter.unusedVariables false
set_option linter.unusedSimpArgs false
abbrev Pt := S38
abbrev SZ (s : ByteArray) : Prop := s.size ≤ 9223372036854775807
def lessV (x y : S36) : Bool := Thy.less x.f0 x.f1 x.f2 y.f0 y.f1 y.f2
theorem wr_small (x : Int) (h1 : -9223372036854775808 ≤ x) (h2 : x < 9223372036854775808) : wrap64 x = x := by unfold wrap64; omega
theorem wr_one (n : Nat) (h : n ≤ 1000000000000000000) : wrap64 ((n : Int) + 1) = ((n + 1 : Nat) : Int) := by rw [wr_small _ (by omega) (by omega)]; omega
theorem wr_pre (n : Nat) (h0 : 0 < n) (h : n ≤ 1000000000000000000) : wrap64 ((n : Int) - 1) = ((n - 1 : Nat) : Int) := by rw [wr_small _ (by omega) (by omega)]; omega
theorem rdP_at (l : List Pt) (n : Nat) (h : n < l.length) : rd_T38 l (n : Int) = l[n] := by
 simp [rd_T38, List.getD_eq_getElem?_getD, List.getElem?_eq_getElem h]
structure OkP (p : Pt) : Prop where
 lo : SZ p.f2.f2
 hi : SZ p.f3.f2
theorem ahead.is (x y : S36) (h : SZ x.f2) : tithebarnref02_Ahead_c.f x.f0 x.f1 x.f2 y.f0 y.f1 y.f2 = some (lessV x y) := by
 unfold tithebarnref02_Ahead_c.f; rw [if_pos h]; rfl
theorem refOverlap.is (a b : Pt) (ha : OkP a) (hb : OkP b) : tithebarnref17_Overlap.f a.f0 a.f1 a.f2.f0 a.f2.f1 a.f2.f2 a.f3.f0 a.f3.f1 a.f3.f2 b.f0 b.f1 b.f2.f0 b.f2.f1 b.f2.f2 b.f3.f0 b.f3.f1 b.f3.f2 = some (ovV a b) := by
 unfold tithebarnref17_Overlap.f ovV
 rw [ahead.is a.f3 b.f2 ha.hi, ahead.is b.f3 a.f2 hb.hi]
 simp only [Option.bind_some, lessV]
 cases Thy.less a.f3.f0 a.f3.f1 a.f3.f2 b.f2.f0 b.f2.f1 b.f2.f2 <;> simp
theorem onV_len (l : List Pt) (a : Int) : (onV l a).length ≤ l.length := List.length_filter_le _ _
theorem onV_mem {l : List Pt} {a : Int} {p : Pt} (h : p ∈ onV l a) : p ∈ l ∧ p.f1 = a := by
 have := List.mem_filter.1 h; exact ⟨this.1, by simpa using this.2⟩
theorem refOf.loop (l : List Pt) (a : Int) (hl : l.length ≤ 1000000) : ∀ (m n : Nat), l.length - n = m → n ≤ l.length → ∀ (acc : List Pt), acc.length ≤ n → ∀ k, m < k →
  tithebarnref17_Of.l0 k l a acc (n : Int) = some (acc ++ onV (l.drop n) a) := by
 intro m
 induction m with
 | zero =>
  intro n hm hn acc hacc k hk
  obtain ⟨k, rfl⟩ : ∃ k', k = k' + 1 := ⟨k - 1, by omega⟩
  obtain rfl : n = l.length := by omega
  rw [tithebarnref17_Of.l0, if_neg (by omega), List.drop_length]; simp [onV]
 | succ m ih =>
  intro n hm hn acc hacc k hk
  obtain ⟨k, rfl⟩ : ∃ k', k = k' + 1 := ⟨k - 1, by omega⟩
  have hlt : n < l.length := by omega
  have hd : l.drop n = l[n] :: l.drop (n + 1) := List.drop_eq_getElem_cons hlt
  rw [tithebarnref17_Of.l0, if_pos (by omega), if_pos (by omega), rdP_at l n hlt, wr_one n (by omega)]
  by_cases hc : l[n].f1 = a
  ·rw [if_pos hc, if_pos (by omega)]
   have := ih (n + 1) (by omega) (by omega) (acc ++ [l[n]]) (by simp; omega) k (by omega)
   rw [hd, onV, List.filter_cons_of_pos (by simpa using hc)]
   refine this.trans ?_
   simp [onV]
  ·rw [if_neg hc, ih (n + 1) (by omega) (by omega) acc (by omega) k (by omega), hd, onV, onV, List.filter_cons_of_neg (by simpa using hc)]
theorem refOf.is (l : List Pt) (a : Int) (hl : l.length ≤ 1000000) (k : Nat) (hk : l.length < k) : tithebarnref17_Of.f k l a = some (onV l a) := by
 unfold tithebarnref17_Of.f
 exact refOf.loop l a hl l.length 0 (by omega) (by omega) [] (by simp) k hk
/-! the least Id -/
theorem cfId_neg (x y : Pt) : cfId x y < 0 ↔ x.f0 < y.f0 := by
 unfold cfId
 split
 ·rename_i h; exact ⟨fun _ => h, fun _ => by decide⟩
 ·rename_i h
  split <;> exact ⟨fun h' => absurd h' (by decide), fun h' => absurd h' h⟩
theorem refMin.loop (q : List Pt) (hl : q.length ≤ 1000000) : ∀ (m n : Nat), q.length - n = m → n ≤ q.length → ∀ (b : Pt) (k : Nat), m < k →
  tithebarnref17_chosen.l0 k q (n : Int) b.f0 b.f1 b.f2.f0 b.f2.f1 b.f2.f2 b.f3.f0 b.f3.f1 b.f3.f2 = some [Stab.minOf cfId b (q.drop n)] := by
 intro m
 induction m with
 | zero =>
  intro n hm hn b k hk
  obtain ⟨k, rfl⟩ : ∃ k', k = k' + 1 := ⟨k - 1, by omega⟩
  obtain rfl : n = q.length := by omega
  rw [tithebarnref17_chosen.l0, if_neg (by omega), List.drop_length]; rfl
 | succ m ih =>
  intro n hm hn b k hk
  obtain ⟨k, rfl⟩ : ∃ k', k = k' + 1 := ⟨k - 1, by omega⟩
  have hlt : n < q.length := by omega
  have hd : q.drop n = q[n] :: q.drop (n + 1) := List.drop_eq_getElem_cons hlt
  rw [tithebarnref17_chosen.l0, if_pos (by omega), if_pos (by omega), rdP_at q n hlt, wr_one n (by omega), hd]
  by_cases hc : q[n].f0 < b.f0
  ·rw [if_pos hc, ih (n + 1) (by omega) (by omega) q[n] k (by omega)]
   unfold Stab.minOf; rw [List.foldl_cons, if_pos ((cfId_neg _ _).2 hc)]
  ·rw [if_neg hc, ih (n + 1) (by omega) (by omega) b k (by omega)]
   unfold Stab.minOf; rw [List.foldl_cons, if_neg (fun h => hc ((cfId_neg _ _).1 h))]
theorem minOf_mem (cf : Pt → Pt → Int) : ∀ (t : List Pt) (x : Pt), Stab.minOf cf x t ∈ x :: t
 | [], x => List.mem_singleton.2 rfl
 | y :: t, x => by
  unfold Stab.minOf; rw [List.foldl_cons]
  have h := minOf_mem cf t (if cf y x < 0 then y else x)
  unfold Stab.minOf at h
  rcases List.mem_cons.1 h with h | h
  ·rw [h]; split <;> simp
  ·exact List.mem_cons_of_mem _ (List.mem_cons_of_mem _ h)
/-! one more, into a list in order -/
theorem ssort_one {lt : Pt → Pt → Bool} (hO : Sort.SWO lt) (l : List Pt) (x : Pt) : Stab.ssort lt (l ++ [x]) = Stab.mrg lt (Stab.ssort lt l) [x] := by
 rw [Stab.mrg_ssort hO]; unfold Stab.ssort; rw [Stab.mrg_app]; rfl
theorem mrg_one {lt : Pt → Pt → Bool} (T U : List Pt) (x : Pt) (hs : Stab.Srt lt (T ++ U)) (h1 : ∀ t ∈ T, lt x t = false) (h2 : ∀ u ∈ U, lt x u = true) : Stab.mrg lt (T ++ U) [x] = T ++ x :: U := by
 have hp := List.pairwise_append.1 hs
 have hc := Stab.mrg_cut (lt := lt) T U [x] [] hp.2.2 (fun _ _ _ h => by cases h) (fun u hu r hr => by rw [List.mem_singleton.1 hr]; exact h2 u hu)
 rw [List.append_nil] at hc
 rw [hc, Stab.mrg_nil U hp.2.1]
 have h := Stab.mrg_stop (lt := lt) [] [x] T (fun t ht s hs => by rw [List.mem_singleton.1 hs]; exact h1 t ht)
 rw [List.nil_append] at h
 rw [h, Stab.mrg_nil T hp.1]; simp
theorem put_left {lt : Pt → Pt → Bool} (hO : Sort.SWO lt) (S : List Pt) (x : Pt) (n : Nat) (hS : Stab.Srt lt S) (h1 : ∀ t ∈ S.take n, lt x t = false) (h2 : ∀ (h : n < S.length), lt x S[n] = true) :
  Stab.mrg lt S [x] = S.take n ++ x :: S.drop n := by
 have hs : Stab.Srt lt (S.take n ++ S.drop n) := by rw [List.take_append_drop]; exact hS
 have h := mrg_one (S.take n) (S.drop n) x hs h1 (by
  intro u hu
  by_cases hlt : n < S.length
  ·have hd : S.drop n = S[n] :: S.drop (n + 1) := List.drop_eq_getElem_cons hlt
   have hp := (List.pairwise_append.1 hs).2.1
   rw [hd] at hu hp
   rcases List.mem_cons.1 hu with rfl | hu
   ·exact h2 hlt
   ·have hr := (List.pairwise_cons.1 hp).1 u hu
    cases hx : lt x u with
    | true => rfl
    | false => have := hO.ntrans _ _ _ hx hr; rw [h2 hlt] at this; cases this
  ·rw [List.drop_eq_nil_of_le (by omega)] at hu; cases hu)
 rwa [List.take_append_drop] at h
theorem put_right {lt : Pt → Pt → Bool} (hO : Sort.SWO lt) (S : List Pt) (x : Pt) (n : Nat) (hn : n ≤ S.length) (hS : Stab.Srt lt S) (h1 : ∀ u ∈ S.drop n, lt x u = true) (h2 : ∀ (h0 : 0 < n), lt x (S[n - 1]'(by omega)) = false) :
  Stab.mrg lt S [x] = S.take n ++ x :: S.drop n := by
 have hs : Stab.Srt lt (S.take n ++ S.drop n) := by rw [List.take_append_drop]; exact hS
 have h := mrg_one (S.take n) (S.drop n) x hs (by
  intro t ht
  cases n with
  | zero => cases ht
  | succ n =>
   have hlt : n < S.length := by omega
   have hp := (List.pairwise_append.1 hs).1
   rw [List.take_succ_eq_append_getElem hlt] at ht hp
   have h3 := h2 (by omega)
   simp only [Nat.add_sub_cancel] at h3
   rcases List.mem_append.1 ht with ht | ht
   ·have hr := (List.pairwise_append.1 hp).2.2 t ht S[n] (by simp)
    exact hO.ntrans _ _ _ h3 hr
   ·rw [List.mem_singleton.1 ht]; exact h3) h1
 rwa [List.take_append_drop] at h
theorem ssort_srt {lt : Pt → Pt → Bool} (hO : Sort.SWO lt) : ∀ l : List Pt, Stab.Srt lt (Stab.ssort lt l)
 | [] => List.Pairwise.nil
 | x :: l => Stab.srt_ins hO x _ (ssort_srt hO l)
theorem ssortP_len (lt : Pt → Pt → Bool) (l : List Pt) : (Stab.ssort lt l).length = l.length := (Stab.ssort_perm l).length_eq
theorem refIns.inner (q S : List Pt) (n : Nat) (hn : n < q.length) (hq : q.length ≤ 1000) (hS : Stab.Srt (ltOf cfDn) S) (hl : S.length ≤ 1000) (R : Option (List Pt)) (K : Nat)
  (hc : ∀ k, K ≤ k → tithebarnref17_chosen.l1 k q (Stab.mrg (ltOf cfDn) S [q[n]]) ((n + 1 : Nat) : Int) = R) : ∀ (d j : Nat), S.length - j = d → j ≤ S.length → (∀ t ∈ S.take j, ltOf cfDn q[n] t = false) → ∀ k, K + 2 * d + 2 ≤ k →
  tithebarnref17_chosen.l2 k q S (n : Int) (j : Int) = R := by
 intro d
 induction d with
 | zero =>
  intro j hd hj h1 k hk
  obtain ⟨k, rfl⟩ : ∃ k', k = k' + 2 := ⟨k - 2, by omega⟩
  have hp := put_left cfDn_swo S q[n] j hS h1 (fun h => by omega)
  rw [tithebarnref17_chosen.l2, if_neg (by omega), tithebarnref17_chosen.j3, if_neg (by decide), if_pos (by omega), if_pos (by omega)]
  simp only [Option.bind_some, Int.toNat_natCast, List.nil_append, List.length_nil]
  rw [if_pos (by rw [List.length_take]; omega), if_pos (by omega), if_pos (by omega), if_pos (by rw [List.length_take]; simp; omega), if_pos (by simp [List.length_take]; omega), rdP_at q n hn, wr_one n (by omega)]
  have hc' := hc k (by omega)
  rw [hp] at hc'
  refine Eq.trans ?_ hc'
  show tithebarnref17_chosen.l1 k q ((S.take j ++ [q[n]]) ++ S.drop j) _ = _
  rw [List.append_assoc]; rfl
 | succ d ih =>
  intro j hd hj h1 k hk
  obtain ⟨k, rfl⟩ : ∃ k', k = k' + 2 := ⟨k - 2, by omega⟩
  have hlt : j < S.length := by omega
  rw [tithebarnref17_chosen.l2, if_pos (by omega), if_pos (by omega), if_pos (by omega), if_pos (by omega), rdP_at q n hn, rdP_at S j hlt, tithebarnref17_chosen.j3]
  by_cases hx : S[j].f0 ≥ q[n].f0
  ·rw [decide_eq_true hx, if_pos rfl, wr_one j (by omega)]
   refine ih (j + 1) (by omega) (by omega) ?_ k (by omega)
   intro t ht
   rw [List.take_succ_eq_append_getElem hlt] at ht
   rcases List.mem_append.1 ht with ht | ht
   ·exact h1 t ht
   ·rw [List.mem_singleton.1 ht, cfDn_lt]; simp; omega
  ·have hp := put_left cfDn_swo S q[n] j hS h1 (fun h => by rw [cfDn_lt]; simp; omega)
   rw [decide_eq_false hx, if_neg (by decide), if_pos (by omega), if_pos (by omega)]
   simp only [Option.bind_some, Int.toNat_natCast, List.nil_append, List.length_nil]
   rw [if_pos (by rw [List.length_take]; omega), if_pos (by omega), if_pos (by omega), if_pos (by rw [List.length_take]; simp <;> omega), if_pos (by simp [List.length_take]; omega), rdP_at q n hn, wr_one n (by omega)]
   have hc' := hc k (by omega)
   rw [hp] at hc'
   refine Eq.trans ?_ hc'
   show tithebarnref17_chosen.l1 k q ((S.take j ++ [q[n]]) ++ S.drop j) _ = _
   rw [List.append_assoc]; rfl
theorem refIns.loop (q : List Pt) (hq : q.length ≤ 1000) : ∀ (m n : Nat), q.length - n = m → n ≤ q.length → ∀ k, m * (2 * q.length + 6) < k →
  tithebarnref17_chosen.l1 k q (Stab.ssort (ltOf cfDn) (q.take n)) (n : Int) = some (Stab.ssort (ltOf cfDn) q) := by
 intro m
 induction m with
 | zero =>
  intro n hm hn k hk
  obtain ⟨k, rfl⟩ : ∃ k', k = k' + 1 := ⟨k - 1, by omega⟩
  obtain rfl : n = q.length := by omega
  rw [tithebarnref17_chosen.l1, if_neg (by omega), List.take_length]
 | succ m ih =>
  intro n hm hn k hk
  rw [Nat.succ_mul] at hk
  obtain ⟨k, rfl⟩ : ∃ k', k = k' + 1 := ⟨k - 1, by omega⟩
  have hlt : n < q.length := by omega
  rw [tithebarnref17_chosen.l1, if_pos (by omega)]
  have hlen : (Stab.ssort (ltOf cfDn) (q.take n)).length = n := by rw [ssortP_len, List.length_take]; omega
  refine refIns.inner q _ n hlt hq (ssort_srt cfDn_swo _) (by omega) _ (m * (2 * q.length + 6) + 1) (fun k hk => ?_) n 0 (by omega) (by omega) (by simp) k (by omega)
  rw [← ssort_one cfDn_swo, ← List.take_succ_eq_append_getElem hlt]
  exact ih (n + 1) (by omega) (by omega) k (by omega)
theorem refChosen.is (l : List Pt) (a : Int) (hl : l.length ≤ 80) (k : Nat) (hk : 20000 ≤ k) (hne : onV l a ≠ []) : tithebarnref17_chosen.f k l a = chosenV l a := by
 have hlen := onV_len l a
 unfold tithebarnref17_chosen.f chosenV
 rw [refOf.is l a (by omega) k (by omega), Option.bind_some]
 by_cases ha : a > 0
 ·rw [if_pos ha, if_pos ha]
  generalize onV l a = q at hne hlen
  cases q with
  | nil => exact absurd rfl hne
  | cons x t =>
   rw [if_pos (by simp)]
   exact refMin.loop (x :: t) (by omega) t.length 1 (by simp) (by simp) x k (by simp at hlen; omega)
 ·rw [if_neg ha, if_neg ha]
  generalize onV l a = q at hne hlen
  have h1 : q.length * (2 * q.length + 6) ≤ 80 * 166 := Nat.mul_le_mul (by omega) (by omega)
  exact refIns.loop q (by omega) q.length 0 (by omega) (by omega) k (by omega)

end Go.Proofs.Ytcbgcmaioicdbaa.Pr
