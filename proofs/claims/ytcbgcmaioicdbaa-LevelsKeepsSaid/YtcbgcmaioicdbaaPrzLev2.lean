/- Levels: the parts below, the span, the level that is full, the plan, whether levels are disjoint. -/
import Derived.Test.YtcbgcmaioicdbaaRdk
import Derived.Test.YtcbgcmaioicdbaaPrf10
import Derived.Test.YtcbgcmaioicdbaaPrf12
import Derived.Test.YtcbgcmaioicdbaaPrf24
import Derived.Test.YtcbgcmaioicdbaaPrf25
import Derived.Test.YtcbgcmaioicdbaaPrf26
import Derived.Test.YtcbgcmaioicdbaaPrf33
import Derived.Test.YtcbgcmaioicdbaaPrf35xc
import Derived.Test.YtcbgcmaioicdbaaPrzLev
import Derived.Test.YtcbgcmaioicdbaaThy
namespace Go.Proofs.Ytcbgcmaioicdbaa.Pr
open Go.RowKit Go.Proofs.Ytcbgcmaioicdbaa.Brid Go.Proofs.YtcbgcmaioicdbaaW.PrintWords Go.Proofs.YtcbgcmaioicdbaaW.PrintLast Go.Proofs.YtcbgcmaioicdbaaW.PrintMore
set_option linter.unusedVariables false
set_option linter.unusedSimpArgs false
theorem cfLo_lt2 (x y : Pt) : ltOf cfLo x y = lessV x.f2 y.f2 := cfLo_lt x y
/-! the span -/
def stepV (a p : Pt) : Pt := ⟨a.f0, a.f1, if lessV p.f2 a.f2 = true then p.f2 else a.f2, if lessV a.f3 p.f3 = true then p.f3 else a.f3⟩
def spanV (x : Pt) (t : List Pt) : Pt := t.foldl stepV x
def tupP (a : Pt) : Int × Int × Bool × Int × ByteArray × Bool × Int × ByteArray := (a.f0, a.f1, a.f2.f0, a.f2.f1, a.f2.f2, a.f3.f0, a.f3.f1, a.f3.f2)
theorem stepV_ok {a p : Pt} (ha : OkP a) (hp : OkP p) : OkP (stepV a p) := by
 refine ⟨?_, ?_⟩
 ·show SZ (if lessV p.f2 a.f2 = true then p.f2 else a.f2).f2
  split
  ·exact hp.lo
  ·exact ha.lo
 ·show SZ (if lessV a.f3 p.f3 = true then p.f3 else a.f3).f2
  split
  ·exact hp.hi
  ·exact ha.hi
theorem spanV_ok : ∀ (t : List Pt) (x : Pt), OkP x → (∀ p ∈ t, OkP p) → OkP (spanV x t)
 | [], x, hx, _ => hx
 | y :: t, x, hx, ht => spanV_ok t (stepV x y) (stepV_ok hx (ht y List.mem_cons_self)) (fun p hp => ht p (List.mem_cons_of_mem _ hp))
theorem span.loop (q : List Pt) (hq : q.length ≤ 1000000) : ∀ (m n : Nat), q.length - n = m → n ≤ q.length → ∀ (a : Pt) (k : Nat), 2 * m < k →
  levels_span.l0 k q (q.length : Int) (n : Int) a.f0 a.f1 a.f2.f0 a.f2.f1 a.f2.f2 a.f3.f0 a.f3.f1 a.f3.f2 = some (tupP (spanV a (q.drop n))) := by
 intro m
 induction m with
 | zero =>
  intro n hm hn a k hk
  obtain ⟨k, rfl⟩ : ∃ k', k = k' + 1 := ⟨k - 1, by omega⟩
  obtain rfl : n = q.length := by omega
  rw [levels_span.l0, if_neg (by omega), List.drop_length]; rfl
 | succ m ih =>
  intro n hm hn a k hk
  obtain ⟨k, rfl⟩ : ∃ k', k = k' + 2 := ⟨k - 2, by omega⟩
  have hlt : n < q.length := by omega
  have hd : q.drop n = q[n] :: q.drop (n + 1) := List.drop_eq_getElem_cons hlt
  have hih := ih (n + 1) (by omega) (by omega) (stepV a q[n]) k (by omega)
  rw [levels_span.l0, if_pos (by omega), if_pos (by omega), if_pos (by omega), rdP_at q n hlt, hd]
  simp only [levels_span.j1, kinds_Compare_c.f, Option.bind_some]
  rw [wr_one n (by omega)]
  have e1 : (Thy.cmpV q[n].f2.f0 q[n].f2.f1 q[n].f2.f2 a.f2.f0 a.f2.f1 a.f2.f2 < 0) ↔ lessV q[n].f2 a.f2 = true := Thy.cmpV_lt
  have e2 : (Thy.cmpV q[n].f3.f0 q[n].f3.f1 q[n].f3.f2 a.f3.f0 a.f3.f1 a.f3.f2 > 0) ↔ lessV a.f3 q[n].f3 = true := Thy.cmpV_gt
  simp only [e1, e2]
  refine Eq.trans ?_ hih
  simp only [stepV]
  by_cases c1 : lessV q[n].f2 a.f2 = true <;> by_cases c2 : lessV a.f3 q[n].f3 = true <;> simp only [c1, c2, if_true, if_false] <;> rfl
theorem span.is (x : Pt) (t : List Pt) (ht : t.length ≤ 1000000) (k : Nat) (hk : 2 * t.length < k) : levels_span.f k (x :: t) = some (tupP (spanV x t)) := by
 unfold levels_span.f
 rw [if_pos (by simp), if_pos (by simp <;> omega)]
 exact span.loop t ht t.length 0 (by omega) (by omega) x k hk
/-! the plan's last loops -/
/-! the plan -/
/-- the plan at a level that is full -/
def planV (l : List Pt) (lv : Int) (x : Pt) (t : List Pt) : Int × Int × List Int × Bool × Bool :=
 (lv, lv + 1, ((x :: t) ++ nextV l (lv + 1) (spanV x t)).map (·.f0), !(l.any (fun p => decide (lv + 1 < p.f1))), true)
theorem chosenV_some (l : List Pt) (a : Int) (hne : onV l a ≠ []) : ∃ x t, chosenV l a = some (x :: t) ∧ (∀ p ∈ x :: t, p ∈ onV l a) ∧ t.length < (onV l a).length := by
 unfold chosenV
 by_cases ha : a > 0
 ·rw [if_pos ha]
  generalize onV l a = q at hne
  cases q with
  | nil => exact absurd rfl hne
  | cons y u => exact ⟨_, [], rfl, fun p hp => by rw [List.mem_singleton.1 hp]; exact minOf_mem _ _ _, by simp⟩
 ·rw [if_neg ha]
  have hlen := ssortP_len (ltOf cfDn) (onV l a)
  have hmem : ∀ p ∈ Stab.ssort (ltOf cfDn) (onV l a), p ∈ onV l a := fun p hp => (Stab.ssort_perm (lt := ltOf cfDn) _).mem_iff.1 hp
  generalize Stab.ssort (ltOf cfDn) (onV l a) = s at hlen hmem
  cases s with
  | nil => exact absurd (List.length_eq_zero_iff.1 hlen.symm) hne
  | cons y u => exact ⟨y, u, rfl, hmem, by simp at hlen; omega⟩
theorem fullV_lt {l : List Pt} {lv : Nat} (h : fullV l = some lv) : lv < 3 ∧ limV lv < (onV l (lv : Int)).length := by
 unfold fullV at h
 split at h
 ·rename_i c; cases h; exact ⟨by omega, c⟩
 ·split at h
  ·rename_i c; cases h; exact ⟨by omega, c⟩
  ·split at h
   ·rename_i c; cases h; exact ⟨by omega, c⟩
   ·cases h
theorem pick_some (l : List Pt) (hl : l.length ≤ 1000) (lv : Nat) (h : fullV l = some lv) : ∃ x t, chosenV l lv = some (x :: t) ∧ (∀ p ∈ x :: t, p ∈ onV l lv) ∧ t.length < (onV l lv).length ∧ levels_Pick.f l = some (planV l lv x t) := by
 have hne : onV l lv ≠ [] := fun he => by have := (fullV_lt h).2; rw [he] at this; simp at this
 obtain ⟨x, t, hch, hm, ht⟩ := chosenV_some l lv hne
 refine ⟨x, t, hch, hm, ht, ?_⟩
 have hlen := onV_len l lv
 unfold levels_Pick.f
 rw [if_pos (by omega), h]
 simp only
 rw [hch, Option.bind_some, span.is x t (by omega) 1000000000 (by omega), Option.bind_some]
 rfl
theorem pick_none (l : List Pt) (hl : l.length ≤ 1000) (h : fullV l = none) : levels_Pick.f l = some (0, 0, [], false, false) := by
 unfold levels_Pick.f
 rw [if_pos (by omega), h]
/-! the same plan -/
theorem same.loop (ids : List Int) (a b : Int) (c : Bool) (a' b' : Int) (c' : Bool) (hi : ids.length ≤ 100000) : ∀ (m n : Nat), ids.length - n = m → n ≤ ids.length → ∀ k, m < k → tithebarnlaw17_same.l0 k (n : Int) a b ids c a' b' ids c' = some true := by
 intro m
 induction m with
 | zero =>
  intro n hm hn k hk
  obtain ⟨k, rfl⟩ : ∃ k', k = k' + 1 := ⟨k - 1, by omega⟩
  rw [tithebarnlaw17_same.l0, if_neg (by omega)]
 | succ m ih =>
  intro n hm hn k hk
  obtain ⟨k, rfl⟩ : ∃ k', k = k' + 1 := ⟨k - 1, by omega⟩
  rw [tithebarnlaw17_same.l0, if_pos (by omega), if_pos (by omega), if_pos (by omega), if_pos rfl, wr_one n (by omega)]
  exact ih (n + 1) (by omega) (by omega) k (by omega)
theorem same.is (ids : List Int) (a b : Int) (c : Bool) (hi : ids.length ≤ 100000) (k : Nat) (hk : ids.length + 1 < k) : tithebarnlaw17_same.f k a b ids c a b ids c = some true := by
 obtain ⟨k, rfl⟩ : ∃ k', k = k' + 1 := ⟨k - 1, by omega⟩
 unfold tithebarnlaw17_same.f
 have e : ((ids.length : Int) != (ids.length : Int)) = false := bne_eq_false_iff_eq.2 rfl
 rw [if_pos rfl, if_pos rfl, if_neg (by simp), e, tithebarnlaw17_same.j0, if_neg (by decide)]
 exact same.loop ids a b c a b c hi ids.length 0 (by omega) (by omega) k (by omega)
theorem pick_ids (l : List Pt) (hl : l.length ≤ 1000) (r : Int × Int × List Int × Bool × Bool) (h : levels_Pick.f l = some r) : r.2.2.1.length ≤ 2 * l.length := by
 cases hf : fullV l with
 | none => rw [pick_none l hl hf] at h; cases h; simp
 | some lv =>
  obtain ⟨x, t, h1, h2, h3, h4⟩ := pick_some l hl lv hf
  rw [h4] at h; cases h
  have ha := onV_len l lv
  have hb := onV_len l ((lv : Int) + 1)
  have hc := List.length_filter_le (fun p => ovV p (spanV x t)) (onV l ((lv : Int) + 1))
  simp only [planV, List.length_map, List.length_append, List.length_cons, nextV, ssortP_len]
  omega

end Go.Proofs.Ytcbgcmaioicdbaa.Pr
