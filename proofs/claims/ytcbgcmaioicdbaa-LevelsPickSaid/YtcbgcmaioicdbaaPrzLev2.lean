/- Levels: the parts below, the span, the level that is full, the plan, whether levels are disjoint. -/
import Derived.Test.YtcbgcmaioicdbaaRdk
import Derived.Test.YtcbgcmaioicdbaaPrf10
import Derived.Test.YtcbgcmaioicdbaaPrf11
import Derived.Test.YtcbgcmaioicdbaaPrf12
import Derived.Test.YtcbgcmaioicdbaaPrf24
import Derived.Test.YtcbgcmaioicdbaaPrf25
import Derived.Test.YtcbgcmaioicdbaaPrf26
import Derived.Test.YtcbgcmaioicdbaaPrf33
import Derived.Test.YtcbgcmaioicdbaaPrf35xc
import Derived.Test.YtcbgcmaioicdbaaPrf37
import Derived.Test.YtcbgcmaioicdbaaPrf39
import Derived.Test.YtcbgcmaioicdbaaPrf40
import Derived.Test.YtcbgcmaioicdbaaPrzLev
import Derived.Test.YtcbgcmaioicdbaaThy
namespace Go.Proofs.Ytcbgcmaioicdbaa.Pr
open Go.RowKit Go.Proofs.Ytcbgcmaioicdbaa.Brid Go.Proofs.YtcbgcmaioicdbaaW.PrintWords Go.Proofs.YtcbgcmaioicdbaaW.PrintLast Go.Proofs.YtcbgcmaioicdbaaW.PrintMore
set_option linter.unusedVariables false
set_option linter.unusedSimpArgs false
theorem cfLo_lt2 (x y : Pt) : ltOf cfLo x y = lessV x.f2 y.f2 := cfLo_lt x y
theorem refLow.inner (q S : List Pt) (a : Pt) (n : Nat) (hn : n < q.length) (hok : OkP q[n]) (hq : q.length ≤ 1000) (hS : Stab.Srt (ltOf cfLo) S) (hl : S.length ≤ 1000) (R : Option (List Pt)) (K : Nat)
  (hc : ∀ k, K ≤ k → tithebarnref17_below.l0 k q (Stab.mrg (ltOf cfLo) S [q[n]]) ((n + 1 : Nat) : Int) a.f0 a.f1 a.f2.f0 a.f2.f1 a.f2.f2 a.f3.f0 a.f3.f1 a.f3.f2 = R) : ∀ (j : Nat), j ≤ S.length → (∀ u ∈ S.drop j, ltOf cfLo q[n] u = true) → ∀ k, K + 2 * j + 2 ≤ k →
  tithebarnref17_below.l1 k q S (n : Int) (j : Int) a.f0 a.f1 a.f2.f0 a.f2.f1 a.f2.f2 a.f3.f0 a.f3.f1 a.f3.f2 = R := by
 intro j
 induction j with
 | zero =>
  intro hj h1 k hk
  obtain ⟨k, rfl⟩ : ∃ k', k = k' + 2 := ⟨k - 2, by omega⟩
  have hp := put_right cfLo_swo S q[n] 0 (by omega) hS h1 (fun h => by omega)
  rw [tithebarnref17_below.l1, if_neg (by omega), tithebarnref17_below.j2, if_neg (by decide), if_pos (by omega), if_pos (by omega)]
  simp only [Option.bind_some, Int.toNat_natCast, List.nil_append, List.length_nil]
  rw [if_pos (by rw [List.length_take]; omega), if_pos (by omega), if_pos (by omega), if_pos (by rw [List.length_take]; simp <;> omega), if_pos (by simp [List.length_take]; omega), rdP_at q n hn, wr_one n (by omega)]
  have hc' := hc k (by omega)
  rw [hp] at hc'
  refine Eq.trans ?_ hc'
  show tithebarnref17_below.l0 k q ((S.take 0 ++ [q[n]]) ++ S.drop 0) _ _ _ _ _ _ _ _ _ = _
  rw [List.append_assoc]; rfl
 | succ j ih =>
  intro hj h1 k hk
  obtain ⟨k, rfl⟩ : ∃ k', k = k' + 2 := ⟨k - 2, by omega⟩
  have hlt : j < S.length := by omega
  have hw : wrap64 (((j + 1 : Nat) : Int) - 1) = (j : Int) := by rw [wr_pre (j + 1) (by omega) (by omega)]; rfl
  rw [tithebarnref17_below.l1, if_pos (by omega), if_pos (by omega), if_pos (by omega), hw, if_pos (by omega), if_pos (by omega), rdP_at q n hn, rdP_at S j hlt, ahead.is _ _ hok.lo, Option.bind_some, tithebarnref17_below.j2]
  have hd : S.drop j = S[j] :: S.drop (j + 1) := List.drop_eq_getElem_cons hlt
  cases hx : lessV q[n].f2 S[j].f2 with
  | true =>
   rw [if_pos rfl, hw]
   refine ih (by omega) ?_ k (by omega)
   intro u hu
   rw [hd] at hu
   rcases List.mem_cons.1 hu with rfl | hu
   ·rw [cfLo_lt2]; exact hx
   ·exact h1 u hu
  | false =>
   have hp := put_right cfLo_swo S q[n] (j + 1) (by omega) hS h1 (fun h => by rw [cfLo_lt2]; exact hx)
   rw [if_neg (by decide), if_pos (by omega), if_pos (by omega)]
   simp only [Option.bind_some, Int.toNat_natCast, List.nil_append, List.length_nil]
   rw [if_pos (by rw [List.length_take]; omega), if_pos (by omega), if_pos (by omega), if_pos (by rw [List.length_take]; simp <;> omega), if_pos (by simp [List.length_take]; omega), rdP_at q n hn, wr_one n (by omega)]
   have hc' := hc k (by omega)
   rw [hp] at hc'
   refine Eq.trans ?_ hc'
   show tithebarnref17_below.l0 k q ((S.take (j + 1) ++ [q[n]]) ++ S.drop (j + 1)) _ _ _ _ _ _ _ _ _ = _
   rw [List.append_assoc]; rfl
theorem refLow.loop (q : List Pt) (a : Pt) (hq : q.length ≤ 1000) (hok : ∀ p ∈ q, OkP p) (ha : OkP a) : ∀ (m n : Nat), q.length - n = m → n ≤ q.length → ∀ k, m * (2 * q.length + 6) < k →
  tithebarnref17_below.l0 k q (Stab.ssort (ltOf cfLo) ((q.take n).filter (fun p => ovV p a))) (n : Int) a.f0 a.f1 a.f2.f0 a.f2.f1 a.f2.f2 a.f3.f0 a.f3.f1 a.f3.f2 = some (Stab.ssort (ltOf cfLo) (q.filter (fun p => ovV p a))) := by
 intro m
 induction m with
 | zero =>
  intro n hm hn k hk
  obtain ⟨k, rfl⟩ : ∃ k', k = k' + 1 := ⟨k - 1, by omega⟩
  obtain rfl : n = q.length := by omega
  rw [tithebarnref17_below.l0, if_neg (by omega), List.take_length]
 | succ m ih =>
  intro n hm hn k hk
  rw [Nat.succ_mul] at hk
  obtain ⟨k, rfl⟩ : ∃ k', k = k' + 1 := ⟨k - 1, by omega⟩
  have hlt : n < q.length := by omega
  have hok1 := hok q[n] (List.getElem_mem _)
  rw [tithebarnref17_below.l0, if_pos (by omega), if_pos (by omega), rdP_at q n hlt, refOverlap.is _ _ hok1 ha, Option.bind_some]
  have hlen : (Stab.ssort (ltOf cfLo) ((q.take n).filter (fun p => ovV p a))).length ≤ n := by
   rw [ssortP_len]; exact Nat.le_trans (List.length_filter_le _ _) (by rw [List.length_take]; omega)
  have hih := ih (n + 1) (by omega) (by omega)
  rw [List.take_succ_eq_append_getElem hlt, List.filter_append] at hih
  cases hx : ovV q[n] a with
  | true =>
   rw [if_pos rfl]
   rw [List.filter_cons_of_pos (by exact hx), List.filter_nil, ssort_one cfLo_swo] at hih
   exact refLow.inner q _ a n hlt hok1 hq (ssort_srt cfLo_swo _) (by omega) _ (m * (2 * q.length + 6) + 1) (fun k hk => hih k (by omega)) _ (Nat.le_refl _) (by rw [List.drop_length]; simp) k (by omega)
  | false =>
   rw [if_neg (by decide), wr_one n (by omega)]
   rw [List.filter_cons_of_neg (by rw [hx]; decide), List.filter_nil, List.append_nil] at hih
   exact hih k (by omega)
theorem refBelow.is (l : List Pt) (lv : Int) (a : Pt) (hl : l.length ≤ 80) (hok : ∀ p ∈ l, OkP p) (ha : OkP a) (k : Nat) (hk : 20000 ≤ k) :
  tithebarnref17_below.f k l lv a.f0 a.f1 a.f2.f0 a.f2.f1 a.f2.f2 a.f3.f0 a.f3.f1 a.f3.f2 = some (nextV l lv a) := by
 have hlen := onV_len l lv
 unfold tithebarnref17_below.f nextV
 rw [refOf.is l lv (by omega) k (by omega), Option.bind_some]
 have hok2 : ∀ p ∈ onV l lv, OkP p := fun p hp => hok p (onV_mem hp).1
 generalize onV l lv = q at hlen hok2
 have h1 : q.length * (2 * q.length + 6) ≤ 80 * 166 := Nat.mul_le_mul (by omega) (by omega)
 exact refLow.loop q a (by omega) hok2 ha q.length 0 (by omega) (by omega) k (by omega)
/-! the span -/
def stepV (a p : Pt) : Pt := ⟨a.f0, a.f1, if lessV p.f2 a.f2 = true then p.f2 else a.f2, if lessV a.f3 p.f3 = true then p.f3 else a.f3⟩
def spanV (x : Pt) (t : List Pt) : Pt := t.foldl stepV x
def tupP (a : Pt) : Int × Int × Bool × Int × ByteArray × Bool × Int × ByteArray := (a.f0, a.f1, a.f2.f0, a.f2.f1, a.f2.f2, a.f3.f0, a.f3.f1, a.f3.f2)
theorem stepV_ok {a p : Pt} (ha : OkP a) (hp : OkP p) : OkP (stepV a p) := by
 refine ⟨?_, ?_⟩
 ·show SZ (if lessV p.f2 a.f2 = true then p.f2 else a.f2).f2
  split
  ·exact hp.lo
  ·exact ha.lo
 ·show SZ (if lessV a.f3 p.f3 = true then p.f3 else a.f3).f2
  split
  ·exact hp.hi
  ·exact ha.hi
theorem spanV_ok : ∀ (t : List Pt) (x : Pt), OkP x → (∀ p ∈ t, OkP p) → OkP (spanV x t)
 | [], x, hx, _ => hx
 | y :: t, x, hx, ht => spanV_ok t (stepV x y) (stepV_ok hx (ht y List.mem_cons_self)) (fun p hp => ht p (List.mem_cons_of_mem _ hp))
theorem span.loop (q : List Pt) (hq : q.length ≤ 1000000) : ∀ (m n : Nat), q.length - n = m → n ≤ q.length → ∀ (a : Pt) (k : Nat), 2 * m < k →
  levels_span.l0 k q (q.length : Int) (n : Int) a.f0 a.f1 a.f2.f0 a.f2.f1 a.f2.f2 a.f3.f0 a.f3.f1 a.f3.f2 = some (tupP (spanV a (q.drop n))) := by
 intro m
 induction m with
 | zero =>
  intro n hm hn a k hk
  obtain ⟨k, rfl⟩ : ∃ k', k = k' + 1 := ⟨k - 1, by omega⟩
  obtain rfl : n = q.length := by omega
  rw [levels_span.l0, if_neg (by omega), List.drop_length]; rfl
 | succ m ih =>
  intro n hm hn a k hk
  obtain ⟨k, rfl⟩ : ∃ k', k = k' + 2 := ⟨k - 2, by omega⟩
  have hlt : n < q.length := by omega
  have hd : q.drop n = q[n] :: q.drop (n + 1) := List.drop_eq_getElem_cons hlt
  have hih := ih (n + 1) (by omega) (by omega) (stepV a q[n]) k (by omega)
  rw [levels_span.l0, if_pos (by omega), if_pos (by omega), if_pos (by omega), rdP_at q n hlt, hd]
  simp only [levels_span.j1, kinds_Compare_c.f, Option.bind_some]
  rw [wr_one n (by omega)]
  have e1 : (Thy.cmpV q[n].f2.f0 q[n].f2.f1 q[n].f2.f2 a.f2.f0 a.f2.f1 a.f2.f2 < 0) ↔ lessV q[n].f2 a.f2 = true := Thy.cmpV_lt
  have e2 : (Thy.cmpV q[n].f3.f0 q[n].f3.f1 q[n].f3.f2 a.f3.f0 a.f3.f1 a.f3.f2 > 0) ↔ lessV a.f3 q[n].f3 = true := Thy.cmpV_gt
  simp only [e1, e2]
  refine Eq.trans ?_ hih
  simp only [stepV]
  by_cases c1 : lessV q[n].f2 a.f2 = true <;> by_cases c2 : lessV a.f3 q[n].f3 = true <;> simp only [c1, c2, if_true, if_false] <;> rfl
theorem refSpan.loop (q : List Pt) (hq : q.length ≤ 1000000) (hok : ∀ p ∈ q, OkP p) : ∀ (m n : Nat), q.length - n = m → n ≤ q.length → ∀ (a : Pt), OkP a → ∀ (k : Nat), 2 * m < k →
  tithebarnref17_span.l0 k q (n : Int) a.f0 a.f1 a.f2.f0 a.f2.f1 a.f2.f2 a.f3.f0 a.f3.f1 a.f3.f2 = some (tupP (spanV a (q.drop n))) := by
 intro m
 induction m with
 | zero =>
  intro n hm hn a ha k hk
  obtain ⟨k, rfl⟩ : ∃ k', k = k' + 1 := ⟨k - 1, by omega⟩
  obtain rfl : n = q.length := by omega
  rw [tithebarnref17_span.l0, if_neg (by omega), List.drop_length]; rfl
 | succ m ih =>
  intro n hm hn a ha k hk
  obtain ⟨k, rfl⟩ : ∃ k', k = k' + 2 := ⟨k - 2, by omega⟩
  have hlt : n < q.length := by omega
  have hok1 := hok q[n] (List.getElem_mem _)
  have hd : q.drop n = q[n] :: q.drop (n + 1) := List.drop_eq_getElem_cons hlt
  have hih := ih (n + 1) (by omega) (by omega) (stepV a q[n]) (stepV_ok ha hok1) k (by omega)
  have hi : (n : Int) < (q.length : Int) := by omega
  have hz : (0 : Int) ≤ (n : Int) := by omega
  rw [tithebarnref17_span.l0, if_pos hi, if_pos hz, rdP_at q n hlt, hd, ahead.is q[n].f2 a.f2 hok1.lo]
  simp only [tithebarnref17_span.j1, Option.bind_some, if_pos hi, if_pos hz, rdP_at q n hlt, ahead.is a.f3 q[n].f3 ha.hi]
  rw [wr_one n (by omega)]
  refine Eq.trans ?_ hih
  simp only [stepV]
  by_cases c1 : lessV q[n].f2 a.f2 = true <;> by_cases c2 : lessV a.f3 q[n].f3 = true <;> simp only [c1, c2, if_true, if_false] <;> rfl
theorem span.is (x : Pt) (t : List Pt) (ht : t.length ≤ 1000000) (k : Nat) (hk : 2 * t.length < k) : levels_span.f k (x :: t) = some (tupP (spanV x t)) := by
 unfold levels_span.f
 rw [if_pos (by simp), if_pos (by simp <;> omega)]
 exact span.loop t ht t.length 0 (by omega) (by omega) x k hk
theorem refSpan.is (x : Pt) (t : List Pt) (ht : t.length ≤ 100000) (hok : ∀ p ∈ x :: t, OkP p) (k : Nat) (hk : 2 * t.length < k) : tithebarnref17_span.f k (x :: t) = some (tupP (spanV x t)) := by
 unfold tithebarnref17_span.f
 rw [if_pos (by simp)]
 exact refSpan.loop (x :: t) (by simp; omega) hok t.length 1 (by simp) (by simp) x (hok x List.mem_cons_self) k hk
/-! the plan's last loops -/
theorem refPick.l3 (l : List Pt) (lv : Int) (ids : List Int) (h0 : 0 ≤ lv) (h9 : lv ≤ 9) (hl : l.length ≤ 1000) : ∀ (m n : Nat), l.length - n = m → n ≤ l.length → ∀ (b : Bool) (k : Nat), m < k →
  tithebarnref17_Pick.l3 k l lv (n : Int) lv (lv + 1) ids b = some (lv, lv + 1, ids, b && !((l.drop n).any (fun p => decide (lv + 1 < p.f1))), true) := by
 intro m
 induction m with
 | zero =>
  intro n hm hn b k hk
  obtain ⟨k, rfl⟩ : ∃ k', k = k' + 1 := ⟨k - 1, by omega⟩
  obtain rfl : n = l.length := by omega
  rw [tithebarnref17_Pick.l3, if_neg (by omega), List.drop_length]; simp
 | succ m ih =>
  intro n hm hn b k hk
  obtain ⟨k, rfl⟩ : ∃ k', k = k' + 1 := ⟨k - 1, by omega⟩
  have hlt : n < l.length := by omega
  have hd : l.drop n = l[n] :: l.drop (n + 1) := List.drop_eq_getElem_cons hlt
  rw [tithebarnref17_Pick.l3, if_pos (by omega), wr_one n (by omega), hd, List.any_cons]
  cases b with
  | false => rw [if_neg (by decide), ih (n + 1) (by omega) (by omega) false k (by omega)]; rfl
  | true =>
   rw [if_pos rfl, if_pos (by omega), rdP_at l n hlt, wr_small (lv + 1) (by omega) (by omega), ih (n + 1) (by omega) (by omega) _ k (by omega)]
   by_cases hc : lv + 1 < l[n].f1
   ·rw [decide_eq_true hc, decide_eq_false (show ¬ l[n].f1 ≤ lv + 1 by omega)]; rfl
   ·rw [decide_eq_false hc, decide_eq_true (show l[n].f1 ≤ lv + 1 by omega)]; rfl
theorem refPick.l2 (l b : List Pt) (lv : Int) (h0 : 0 ≤ lv) (h9 : lv ≤ 9) (hl : l.length ≤ 1000) (hb : b.length ≤ 1000) : ∀ (m n : Nat), b.length - n = m → n ≤ b.length → ∀ (ids : List Int), ids.length ≤ 2000 + n → ∀ (k : Nat), m + l.length + 1 < k →
  tithebarnref17_Pick.l2 k l lv b (n : Int) lv (lv + 1) ids true = some (lv, lv + 1, ids ++ (b.drop n).map (·.f0), !(l.any (fun p => decide (lv + 1 < p.f1))), true) := by
 intro m
 induction m with
 | zero =>
  intro n hm hn ids hi k hk
  obtain ⟨k, rfl⟩ : ∃ k', k = k' + 1 := ⟨k - 1, by omega⟩
  obtain rfl : n = b.length := by omega
  rw [tithebarnref17_Pick.l2, if_neg (by omega), List.drop_length]
  refine (refPick.l3 l lv ids h0 h9 hl l.length 0 (by omega) (by omega) true k (by omega)).trans ?_
  simp
 | succ m ih =>
  intro n hm hn ids hi k hk
  obtain ⟨k, rfl⟩ : ∃ k', k = k' + 1 := ⟨k - 1, by omega⟩
  have hlt : n < b.length := by omega
  have hd : b.drop n = b[n] :: b.drop (n + 1) := List.drop_eq_getElem_cons hlt
  rw [tithebarnref17_Pick.l2, if_pos (by omega), if_pos (by omega), if_pos (by omega), wr_one n (by omega), rdP_at b n hlt, ih (n + 1) (by omega) (by omega) _ (by simp; omega) k (by omega), hd, List.append_assoc, List.map_cons]
  rfl
theorem refPick.l1 (l a b : List Pt) (lv : Int) (h0 : 0 ≤ lv) (h9 : lv ≤ 9) (hl : l.length ≤ 1000) (ha : a.length ≤ 1000) (hb : b.length ≤ 1000) : ∀ (m n : Nat), a.length - n = m → n ≤ a.length → ∀ (ids : List Int), ids.length ≤ n → ∀ (k : Nat), m + b.length + l.length + 2 < k →
  tithebarnref17_Pick.l1 k l lv a b (n : Int) lv (lv + 1) ids true = some (lv, lv + 1, ids ++ ((a.drop n).map (·.f0) ++ b.map (·.f0)), !(l.any (fun p => decide (lv + 1 < p.f1))), true) := by
 intro m
 induction m with
 | zero =>
  intro n hm hn ids hi k hk
  obtain ⟨k, rfl⟩ : ∃ k', k = k' + 1 := ⟨k - 1, by omega⟩
  obtain rfl : n = a.length := by omega
  rw [tithebarnref17_Pick.l1, if_neg (by omega), List.drop_length]
  exact refPick.l2 l b lv h0 h9 hl hb b.length 0 (by omega) (by omega) ids (by omega) k (by omega)
 | succ m ih =>
  intro n hm hn ids hi k hk
  obtain ⟨k, rfl⟩ : ∃ k', k = k' + 1 := ⟨k - 1, by omega⟩
  have hlt : n < a.length := by omega
  have hd : a.drop n = a[n] :: a.drop (n + 1) := List.drop_eq_getElem_cons hlt
  rw [tithebarnref17_Pick.l1, if_pos (by omega), if_pos (by omega), if_pos (by omega), wr_one n (by omega), rdP_at a n hlt, ih (n + 1) (by omega) (by omega) _ (by simp; omega) k (by omega), hd, List.append_assoc, List.map_cons]
  rfl
/-! the plan -/
/-- the plan at a level that is full -/
def planV (l : List Pt) (lv : Int) (x : Pt) (t : List Pt) : Int × Int × List Int × Bool × Bool :=
 (lv, lv + 1, ((x :: t) ++ nextV l (lv + 1) (spanV x t)).map (·.f0), !(l.any (fun p => decide (lv + 1 < p.f1))), true)
theorem chosenV_some (l : List Pt) (a : Int) (hne : onV l a ≠ []) : ∃ x t, chosenV l a = some (x :: t) ∧ (∀ p ∈ x :: t, p ∈ onV l a) ∧ t.length < (onV l a).length := by
 unfold chosenV
 by_cases ha : a > 0
 ·rw [if_pos ha]
  generalize onV l a = q at hne
  cases q with
  | nil => exact absurd rfl hne
  | cons y u => exact ⟨_, [], rfl, fun p hp => by rw [List.mem_singleton.1 hp]; exact minOf_mem _ _ _, by simp⟩
 ·rw [if_neg ha]
  have hlen := ssortP_len (ltOf cfDn) (onV l a)
  have hmem : ∀ p ∈ Stab.ssort (ltOf cfDn) (onV l a), p ∈ onV l a := fun p hp => (Stab.ssort_perm (lt := ltOf cfDn) _).mem_iff.1 hp
  generalize Stab.ssort (ltOf cfDn) (onV l a) = s at hlen hmem
  cases s with
  | nil => exact absurd (List.length_eq_zero_iff.1 hlen.symm) hne
  | cons y u => exact ⟨y, u, rfl, hmem, by simp at hlen; omega⟩
theorem fullV_lt {l : List Pt} {lv : Nat} (h : fullV l = some lv) : lv < 3 ∧ limV lv < (onV l (lv : Int)).length := by
 unfold fullV at h
 split at h
 ·rename_i c; cases h; exact ⟨by omega, c⟩
 ·split at h
  ·rename_i c; cases h; exact ⟨by omega, c⟩
  ·split at h
   ·rename_i c; cases h; exact ⟨by omega, c⟩
   ·cases h
theorem pick_some (l : List Pt) (hl : l.length ≤ 1000) (lv : Nat) (h : fullV l = some lv) : ∃ x t, chosenV l lv = some (x :: t) ∧ (∀ p ∈ x :: t, p ∈ onV l lv) ∧ t.length < (onV l lv).length ∧ levels_Pick.f l = some (planV l lv x t) := by
 have hne : onV l lv ≠ [] := fun he => by have := (fullV_lt h).2; rw [he] at this; simp at this
 obtain ⟨x, t, hch, hm, ht⟩ := chosenV_some l lv hne
 refine ⟨x, t, hch, hm, ht, ?_⟩
 have hlen := onV_len l lv
 unfold levels_Pick.f
 rw [if_pos (by omega), h]
 simp only
 rw [hch, Option.bind_some, span.is x t (by omega) 1000000000 (by omega), Option.bind_some]
 rfl
theorem pick_none (l : List Pt) (hl : l.length ≤ 1000) (h : fullV l = none) : levels_Pick.f l = some (0, 0, [], false, false) := by
 unfold levels_Pick.f
 rw [if_pos (by omega), h]
theorem refLimit.is (lv : Nat) (h : lv < 3) : tithebarnref17_Limit.f (lv : Int) = some (limV lv : Int) := by
 unfold tithebarnref17_Limit.f limV
 rcases (by omega : lv = 0 ∨ lv = 1 ∨ lv = 2) with rfl | rfl | rfl <;> rfl
theorem refPick.step (l : List Pt) (hl : l.length ≤ 80) (lv : Nat) (h : lv < 3) (k : Nat) (hk : 100 ≤ k) :
  tithebarnref17_Pick.l0 (k + 1) l (lv : Int) = if limV lv < (onV l lv).length then tithebarnref17_Pick.j1 k l lv else tithebarnref17_Pick.l0 k l ((lv + 1 : Nat) : Int) := by
 rw [tithebarnref17_Pick.l0, if_pos (by omega), refOf.is l lv (by omega) k (by omega), Option.bind_some, refLimit.is lv h, Option.bind_some, wr_one lv (by omega)]
 by_cases hc : limV lv < (onV l lv).length
 ·rw [if_pos hc, if_neg (by omega)]
 ·rw [if_neg hc, if_pos (by omega)]
theorem refPick.j1 (l : List Pt) (hl : l.length ≤ 80) (hok : ∀ p ∈ l, OkP p) (lv : Nat) (h3 : lv < 3) (x : Pt) (t : List Pt) (hch : chosenV l lv = some (x :: t)) (hm : ∀ p ∈ x :: t, p ∈ onV l lv) (ht : t.length < (onV l lv).length) (k : Nat) (hk : 21000 ≤ k) :
  tithebarnref17_Pick.j1 (k + 1) l (lv : Int) = some (planV l lv x t) := by
 have hlen := onV_len l lv
 have hne : onV l lv ≠ [] := fun h => by rw [h] at ht; simp at ht
 have hokc : ∀ p ∈ x :: t, OkP p := fun p hp => hok p (onV_mem (hm p hp)).1
 have hoks := spanV_ok t x (hokc x List.mem_cons_self) (fun p hp => hokc p (List.mem_cons_of_mem _ hp))
 have hnx : (nextV l ((lv : Int) + 1) (spanV x t)).length ≤ 80 := by
  unfold nextV
  rw [ssortP_len]
  exact Nat.le_trans (List.length_filter_le _ _) (Nat.le_trans (onV_len l _) hl)
 rw [tithebarnref17_Pick.j1, if_neg (by omega), refChosen.is l lv hl k (by omega) hne, hch, Option.bind_some, refSpan.is x t (by omega) hokc k (by omega), Option.bind_some, wr_small ((lv : Int) + 1) (by omega) (by omega)]
 have hb := refBelow.is l ((lv : Int) + 1) (spanV x t) hl hok hoks k (by omega)
 show ((tithebarnref17_below.f k l ((lv : Int) + 1) (spanV x t).f0 (spanV x t).f1 (spanV x t).f2.f0 (spanV x t).f2.f1 (spanV x t).f2.f2 (spanV x t).f3.f0 (spanV x t).f3.f1 (spanV x t).f3.f2).bind fun t324 => tithebarnref17_Pick.l1 k l lv (x :: t) t324 0 lv ((lv : Int) + 1) [] true) = _
 rw [hb, Option.bind_some]
 refine (refPick.l1 l (x :: t) _ lv (by omega) (by omega) (by omega) (by simp; omega) (by omega) (x :: t).length 0 (by simp) (by simp) [] (by simp) k (by simp; omega)).trans ?_
 simp [planV]
theorem refPick.is (l : List Pt) (hl : l.length ≤ 80) (hok : ∀ p ∈ l, OkP p) (k : Nat) (hk : 25000 ≤ k) : tithebarnref17_Pick.f k l = levels_Pick.f l := by
 obtain ⟨k, rfl⟩ : ∃ k', k = k' + 5 := ⟨k - 5, by omega⟩
 unfold tithebarnref17_Pick.f
 have s0 := refPick.step l hl 0 (by omega) (k + 4) (by omega)
 have s1 := refPick.step l hl 1 (by omega) (k + 3) (by omega)
 have s2 := refPick.step l hl 2 (by omega) (k + 2) (by omega)
 have s3 : tithebarnref17_Pick.l0 (k + 2) l ((2 + 1 : Nat) : Int) = some (0, 0, [], false, false) := by
  rw [tithebarnref17_Pick.l0, if_neg (by omega), tithebarnref17_Pick.j1, if_pos (by omega)]
 refine Eq.trans s0 ?_
 by_cases c0 : limV 0 < (onV l ((0 : Nat) : Int)).length
 ·have hf : fullV l = some 0 := by unfold fullV; exact if_pos c0
  obtain ⟨x, t, h1, h2, h3, h4⟩ := pick_some l (by omega) 0 hf
  rw [if_pos c0, h4]
  exact refPick.j1 l hl hok 0 (by omega) x t h1 h2 h3 (k + 3) (by omega)
 ·rw [if_neg c0]
  refine Eq.trans s1 ?_
  by_cases c1 : limV 1 < (onV l ((1 : Nat) : Int)).length
  ·have hf : fullV l = some 1 := by unfold fullV; exact (if_neg c0).trans (if_pos c1)
   obtain ⟨x, t, h1, h2, h3, h4⟩ := pick_some l (by omega) 1 hf
   rw [if_pos c1, h4]
   exact refPick.j1 l hl hok 1 (by omega) x t h1 h2 h3 (k + 2) (by omega)
  ·rw [if_neg c1]
   refine Eq.trans s2 ?_
   by_cases c2 : limV 2 < (onV l ((2 : Nat) : Int)).length
   ·have hf : fullV l = some 2 := by unfold fullV; exact (if_neg c0).trans ((if_neg c1).trans (if_pos c2))
    obtain ⟨x, t, h1, h2, h3, h4⟩ := pick_some l (by omega) 2 hf
    rw [if_pos c2, h4]
    exact refPick.j1 l hl hok 2 (by omega) x t h1 h2 h3 (k + 1) (by omega)
   ·have hf : fullV l = none := by unfold fullV; exact (if_neg c0).trans ((if_neg c1).trans (if_neg c2))
    rw [if_neg c2, s3, pick_none l (by omega) hf]
/-! the same plan -/
theorem same.loop (ids : List Int) (a b : Int) (c : Bool) (a' b' : Int) (c' : Bool) (hi : ids.length ≤ 100000) : ∀ (m n : Nat), ids.length - n = m → n ≤ ids.length → ∀ k, m < k → tithebarnlaw17_same.l0 k (n : Int) a b ids c a' b' ids c' = some true := by
 intro m
 induction m with
 | zero =>
  intro n hm hn k hk
  obtain ⟨k, rfl⟩ : ∃ k', k = k' + 1 := ⟨k - 1, by omega⟩
  rw [tithebarnlaw17_same.l0, if_neg (by omega)]
 | succ m ih =>
  intro n hm hn k hk
  obtain ⟨k, rfl⟩ : ∃ k', k = k' + 1 := ⟨k - 1, by omega⟩
  rw [tithebarnlaw17_same.l0, if_pos (by omega), if_pos (by omega), if_pos (by omega), if_pos rfl, wr_one n (by omega)]
  exact ih (n + 1) (by omega) (by omega) k (by omega)
theorem same.is (ids : List Int) (a b : Int) (c : Bool) (hi : ids.length ≤ 100000) (k : Nat) (hk : ids.length + 1 < k) : tithebarnlaw17_same.f k a b ids c a b ids c = some true := by
 obtain ⟨k, rfl⟩ : ∃ k', k = k' + 1 := ⟨k - 1, by omega⟩
 unfold tithebarnlaw17_same.f
 have e : ((ids.length : Int) != (ids.length : Int)) = false := bne_eq_false_iff_eq.2 rfl
 rw [if_pos rfl, if_pos rfl, if_neg (by simp), e, tithebarnlaw17_same.j0, if_neg (by decide)]
 exact same.loop ids a b c a b c hi ids.length 0 (by omega) (by omega) k (by omega)
theorem pick_ids (l : List Pt) (hl : l.length ≤ 1000) (r : Int × Int × List Int × Bool × Bool) (h : levels_Pick.f l = some r) : r.2.2.1.length ≤ 2 * l.length := by
 cases hf : fullV l with
 | none => rw [pick_none l hl hf] at h; cases h; simp
 | some lv =>
  obtain ⟨x, t, h1, h2, h3, h4⟩ := pick_some l hl lv hf
  rw [h4] at h; cases h
  have ha := onV_len l lv
  have hb := onV_len l ((lv : Int) + 1)
  have hc := List.length_filter_le (fun p => ovV p (spanV x t)) (onV l ((lv : Int) + 1))
  simp only [planV, List.length_map, List.length_append, List.length_cons, nextV, ssortP_len]
  omega

end Go.Proofs.Ytcbgcmaioicdbaa.Pr
