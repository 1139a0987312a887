/- Levels: what the printed texts compute, in plain words. -/
import Derived.Test.YtcbgcmaioicdbaaRdk
import Derived.Test.YtcbgcmaioicdbaaPr0
import Derived.Test.YtcbgcmaioicdbaaPrf20
import Derived.Test.YtcbgcmaioicdbaaPrf23
import Derived.Test.YtcbgcmaioicdbaaPrf24
import Derived.Test.YtcbgcmaioicdbaaPrf25
import Derived.Test.YtcbgcmaioicdbaaPrf35xc
import Derived.Test.YtcbgcmaioicdbaaPrf42
import Derived.Test.YtcbgcmaioicdbaaThy
namespace Go.Proofs.Ytcbgcmaioicdbaa.Pr
open Go.RowKit Go.Proofs.Ytcbgcmaioicdbaa.Brid Go.Proofs.YtcbgcmaioicdbaaW.PrintWords Go.Proofs.YtcbgcmaioicdbaaW.PrintLast Go.Proofs.YtcbgcmaioicdbaaW.PrintMore
set_option linter.unusedVariables false
set_option linter.unusedSimpArgs false
abbrev Pt := S38
abbrev SZ (s : ByteArray) : Prop := s.size ≤ 9223372036854775807
def lessV (x y : S36) : Bool := Thy.less x.f0 x.f1 x.f2 y.f0 y.f1 y.f2
theorem wr_small (x : Int) (h1 : -9223372036854775808 ≤ x) (h2 : x < 9223372036854775808) : wrap64 x = x := by unfold wrap64; omega
theorem wr_one (n : Nat) (h : n ≤ 1000000000000000000) : wrap64 ((n : Int) + 1) = ((n + 1 : Nat) : Int) := by rw [wr_small _ (by omega) (by omega)]; omega
theorem wr_pre (n : Nat) (h0 : 0 < n) (h : n ≤ 1000000000000000000) : wrap64 ((n : Int) - 1) = ((n - 1 : Nat) : Int) := by rw [wr_small _ (by omega) (by omega)]; omega
theorem rdP_at (l : List Pt) (n : Nat) (h : n < l.length) : rd_T38 l (n : Int) = l[n] := by
 simp [rd_T38, List.getD_eq_getElem?_getD, List.getElem?_eq_getElem h]
structure OkP (p : Pt) : Prop where
 lo : SZ p.f2.f2
 hi : SZ p.f3.f2
theorem ahead.is (x y : S36) (h : SZ x.f2) : tithebarnref02_Ahead_c.f x.f0 x.f1 x.f2 y.f0 y.f1 y.f2 = some (lessV x y) := by
 unfold tithebarnref02_Ahead_c.f; rw [if_pos h]; rfl
theorem refOverlap.is (a b : Pt) (ha : OkP a) (hb : OkP b) : tithebarnref17_Overlap.f a.f0 a.f1 a.f2.f0 a.f2.f1 a.f2.f2 a.f3.f0 a.f3.f1 a.f3.f2 b.f0 b.f1 b.f2.f0 b.f2.f1 b.f2.f2 b.f3.f0 b.f3.f1 b.f3.f2 = some (ovV a b) := by
 unfold tithebarnref17_Overlap.f ovV
 rw [ahead.is a.f3 b.f2 ha.hi, ahead.is b.f3 a.f2 hb.hi]
 simp only [Option.bind_some, lessV]
 cases Thy.less a.f3.f0 a.f3.f1 a.f3.f2 b.f2.f0 b.f2.f1 b.f2.f2 <;> simp
theorem onV_len (l : List Pt) (a : Int) : (onV l a).length ≤ l.length := List.length_filter_le _ _
theorem onV_mem {l : List Pt} {a : Int} {p : Pt} (h : p ∈ onV l a) : p ∈ l ∧ p.f1 = a := by
 have := List.mem_filter.1 h; exact ⟨this.1, by simpa using this.2⟩
theorem refOf.loop (l : List Pt) (a : Int) (hl : l.length ≤ 1000000) : ∀ (m n : Nat), l.length - n = m → n ≤ l.length → ∀ (acc : List Pt), acc.length ≤ n → ∀ k, m < k →
  tithebarnref17_Of.l0 k l a acc (n : Int) = some (acc ++ onV (l.drop n) a) := by
 intro m
 induction m with
 | zero =>
  intro n hm hn acc hacc k hk
  obtain ⟨k, rfl⟩ : ∃ k', k = k' + 1 := ⟨k - 1, by omega⟩
  obtain rfl : n = l.length := by omega
  rw [tithebarnref17_Of.l0, if_neg (by omega), List.drop_length]; simp [onV]
 | succ m ih =>
  intro n hm hn acc hacc k hk
  obtain ⟨k, rfl⟩ : ∃ k', k = k' + 1 := ⟨k - 1, by omega⟩
  have hlt : n < l.length := by omega
  have hd : l.drop n = l[n] :: l.drop (n + 1) := List.drop_eq_getElem_cons hlt
  rw [tithebarnref17_Of.l0, if_pos (by omega), if_pos (by omega), rdP_at l n hlt, wr_one n (by omega)]
  by_cases hc : l[n].f1 = a
  ·rw [if_pos hc, if_pos (by omega)]
   have := ih (n + 1) (by omega) (by omega) (acc ++ [l[n]]) (by simp; omega) k (by omega)
   rw [hd, onV, List.filter_cons_of_pos (by simpa using hc)]
   refine this.trans ?_
   simp [onV]
  ·rw [if_neg hc, ih (n + 1) (by omega) (by omega) acc (by omega) k (by omega), hd, onV, onV, List.filter_cons_of_neg (by simpa using hc)]
theorem refOf.is (l : List Pt) (a : Int) (hl : l.length ≤ 1000000) (k : Nat) (hk : l.length < k) : tithebarnref17_Of.f k l a = some (onV l a) := by
 unfold tithebarnref17_Of.f
 exact refOf.loop l a hl l.length 0 (by omega) (by omega) [] (by simp) k hk
/-! the least Id -/
theorem cfId_neg (x y : Pt) : cfId x y < 0 ↔ x.f0 < y.f0 := by
 unfold cfId
 split
 ·rename_i h; exact ⟨fun _ => h, fun _ => by decide⟩
 ·rename_i h
  split <;> exact ⟨fun h' => absurd h' (by decide), fun h' => absurd h' h⟩
theorem minOf_mem (cf : Pt → Pt → Int) : ∀ (t : List Pt) (x : Pt), Stab.minOf cf x t ∈ x :: t
 | [], x => List.mem_singleton.2 rfl
 | y :: t, x => by
  unfold Stab.minOf; rw [List.foldl_cons]
  have h := minOf_mem cf t (if cf y x < 0 then y else x)
  unfold Stab.minOf at h
  rcases List.mem_cons.1 h with h | h
  ·rw [h]; split <;> simp
  ·exact List.mem_cons_of_mem _ (List.mem_cons_of_mem _ h)
/-! one more, into a list in order -/
theorem ssort_srt {lt : Pt → Pt → Bool} (hO : Sort.SWO lt) : ∀ l : List Pt, Stab.Srt lt (Stab.ssort lt l)
 | [] => List.Pairwise.nil
 | x :: l => Stab.srt_ins hO x _ (ssort_srt hO l)
theorem ssortP_len (lt : Pt → Pt → Bool) (l : List Pt) : (Stab.ssort lt l).length = l.length := (Stab.ssort_perm l).length_eq

end Go.Proofs.Ytcbgcmaioicdbaa.Pr
