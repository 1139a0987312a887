/- Where levels are disjoint, and the parts that a plan names are replaced by one part within their span on the next level, levels are disjoint. -/
import Derived.Test.YtcbgcmaioicdbaaRdk
import Derived.Test.YtcbgcmaioicdbaaPr0
import Derived.Test.YtcbgcmaioicdbaaPrf10
import Derived.Test.YtcbgcmaioicdbaaPrf13
import Derived.Test.YtcbgcmaioicdbaaPrf17
import Derived.Test.YtcbgcmaioicdbaaPrf21
import Derived.Test.YtcbgcmaioicdbaaPrf24
import Derived.Test.YtcbgcmaioicdbaaPrf35xc
import Derived.Test.YtcbgcmaioicdbaaPrf5
import Derived.Test.YtcbgcmaioicdbaaPrzLev
import Derived.Test.YtcbgcmaioicdbaaPrzLev2
import Derived.Test.YtcbgcmaioicdbaaPrzLev3
import Derived.Test.YtcbgcmaioicdbaaPrzLev4
import Derived.Test.YtcbgcmaioicdbaaPrzLev5
import Derived.Test.YtcbgcmaioicdbaaThy
namespace Go.Proofs.Ytcbgcmaioicdbaa.Pr
open Go.RowKit Go.Proofs.Ytcbgcmaioicdbaa.Brid Go.Proofs.YtcbgcmaioicdbaaW.PrintWords Go.Proofs.YtcbgcmaioicdbaaW.PrintLast Go.Proofs.YtcbgcmaioicdbaaW.PrintMore
set_option linter.unusedVariables false
set_option linter.unusedSimpArgs false
theorem ov_false {p s : Pt} (h : ovV p s = false) : lessV p.f3 s.f2 = true ∨ lessV s.f3 p.f2 = true := by
 unfold ovV at h
 unfold lessV
 cases h1 : Thy.less p.f3.f0 p.f3.f1 p.f3.f2 s.f2.f0 s.f2.f1 s.f2.f2 with
 | true => exact .inl rfl
 | false =>
  cases h2 : Thy.less s.f3.f0 s.f3.f1 s.f3.f2 p.f2.f0 p.f2.f1 p.f2.f2 with
  | true => exact .inr rfl
  | false => rw [h1, h2] at h; cases h
theorem ov_true {p s : Pt} (h : ovV p s = true) : lessV p.f3 s.f2 = false ∧ lessV s.f3 p.f2 = false := by
 unfold ovV at h
 rw [Bool.and_eq_true] at h
 exact ⟨by simpa [lessV] using h.1, by simpa [lessV] using h.2⟩
theorem lessV_le {a b c : S36} (h : lessV a b = true) (h2 : lessV c b = false) : lessV a c = true := by
 cases hx : lessV a c with
 | true => rfl
 | false => have := Thy.notless_trans hx h2; rw [show lessV a b = false from this] at h; cases h
theorem le_lessV {a b c : S36} (h2 : lessV b a = false) (h : lessV b c = true) : lessV a c = true := by
 cases hx : lessV a c with
 | true => rfl
 | false => have := Thy.notless_trans h2 hx; rw [show lessV b c = false from this] at h; cases h
/-- a part of the next level that is left stands on one side of all that are named -/
theorem side (q c nx : List Pt) (lv : Int) (s p : Pt) (h0 : 0 ≤ lv) (hd : disV q = true) (hP : Plan q lv c nx) (hs : ∀ y ∈ c, lessV y.f2 s.f2 = false ∧ lessV s.f3 y.f3 = false)
  (hn : ∀ y ∈ nx, ovV y s = true) (hp : p ∈ q) (h1 : p.f1 = lv + 1) (hw : ovV p p = true) (hnx : p ∉ nx) (hov : ovV p s = false) : (∀ y ∈ c ++ nx, lessV p.f3 y.f2 = true) ∨ (∀ y ∈ c ++ nx, lessV y.f3 p.f2 = true) := by
 have hw' := (ov_true hw).1
 have hap : ∀ y ∈ nx, ovV p y = false := fun y hy => by
  rcases mem_pair DisR.symm ((disV_iff q).1 hd) y (hP.inq y (List.mem_append_right _ hy)) p hp with h | h
  ·exact absurd (h ▸ hy) hnx
  ·exact h (by rw [h1]; omega) (by rw [h1, hP.next y hy])
 rcases ov_false hov with h | h
 ·refine .inl (fun y hy => ?_)
  rcases List.mem_append.1 hy with hy | hy
  ·exact lessV_le h (hs y hy).1
  ·rcases ov_false (hap y hy) with h3 | h3
   ·exact h3
   ·exfalso
    have h4 := (ov_true (hn y hy)).1
    have h5 : lessV y.f3 p.f3 = true := lessV_le h3 hw'
    have h6 : lessV y.f3 s.f2 = true := Thy.less_trans h5 h
    rw [h4] at h6; cases h6
 ·refine .inr (fun y hy => ?_)
  rcases List.mem_append.1 hy with hy | hy
  ·exact le_lessV (hs y hy).2 h
  ·rcases ov_false (hap y hy) with h3 | h3
   ·exfalso
    have h4 := (ov_true (hn y hy)).2
    have h5 : lessV p.f2 y.f2 = true := le_lessV hw' h3
    have h6 : lessV s.f3 y.f2 = true := Thy.less_trans h h5
    rw [h4] at h6; cases h6
   ·exact h3
theorem keeps.end_ (q c nx rest : List Pt) (lv : Int) (s one : Pt) (h0 : 0 ≤ lv) (hd : disV q = true) (hP : Plan q lv c nx) (hs : ∀ y ∈ c, lessV y.f2 s.f2 = false ∧ lessV s.f3 y.f3 = false)
  (hn : ∀ y ∈ nx, ovV y s = true) (hall : ∀ p ∈ q, p.f1 = lv + 1 → ovV p s = true → p ∈ nx) (hr : rest.Sublist q) (hrn : ∀ p ∈ rest, p ∉ c ++ nx) (hw : ∀ p ∈ rest, ovV p p = true) (h1 : one.f1 = lv + 1) (hlo : ∃ y ∈ c ++ nx, one.f2 = y.f2) (hhi : ∃ y ∈ c ++ nx, one.f3 = y.f3) : disV (rest ++ [one]) = true := by
 rw [disV_iff, List.pairwise_append]
 refine ⟨((disV_iff q).1 hd).sublist hr, List.pairwise_singleton _ _, fun p hp o ho => ?_⟩
 rw [List.mem_singleton.1 ho]
 intro _ he
 have hpq := hr.subset hp
 have hp1 : p.f1 = lv + 1 := by rw [← he, h1]
 have hnx : p ∉ nx := fun h => hrn p hp (List.mem_append_right _ h)
 have hov : ovV p s = false := by
  cases hx : ovV p s with
  | false => rfl
  | true => exact absurd (hall p hpq hp1 hx) hnx
 obtain ⟨y, hy, ey⟩ := hlo
 obtain ⟨z, hz, ez⟩ := hhi
 rw [ovV_comm]
 unfold ovV
 rcases side q c nx lv s p h0 hd hP hs hn hpq hp1 (hw p hp) hnx hov with h | h
 ·have := h y hy
  rw [← ey] at this
  rw [show Thy.less p.f3.f0 p.f3.f1 p.f3.f2 one.f2.f0 one.f2.f1 one.f2.f2 = true from this]; rfl
 ·have := h z hz
  rw [← ez] at this
  rw [show Thy.less one.f3.f0 one.f3.f1 one.f3.f2 p.f2.f0 p.f2.f1 p.f2.f2 = true from this, Bool.not_true, Bool.and_false]
theorem wider.is (a b : Pt) (ha : OkP a) (hb : OkP b) : tithebarnlaw17_wider.f a.f0 a.f1 a.f2.f0 a.f2.f1 a.f2.f2 a.f3.f0 a.f3.f1 a.f3.f2 b.f0 b.f1 b.f2.f0 b.f2.f1 b.f2.f2 b.f3.f0 b.f3.f1 b.f3.f2 = some (tupP (stepV a b)) := by
 unfold tithebarnlaw17_wider.f
 rw [ahead.is b.f2 a.f2 hb.lo, ahead.is a.f3 b.f3 ha.hi]
 simp only [Option.bind_some, stepV]
 by_cases c1 : lessV b.f2 a.f2 = true <;> by_cases c2 : lessV a.f3 b.f3 = true <;> simp only [c1, c2, if_true, if_false] <;> rfl
theorem keeps.inner (q rest : List Pt) (first : Bool) (n : Nat) (hn : n < q.length) (hq : q.length ≤ 100) (lv tt : Int) (ids : List Int) (hi : ids.length ≤ 1000) (bot : Bool) (one : Pt) (b : Bool) (R : Option Bool) (K : Nat)
  (hend : ∀ k, K ≤ k → tithebarnlaw17_LevelsKeeps.l1 k q rest first (n : Int) b (ids.length : Int) lv tt ids bot one.f0 one.f1 one.f2.f0 one.f2.f1 one.f2.f2 one.f3.f0 one.f3.f1 one.f3.f2 = R) :
  ∀ (d j : Nat), ids.length - j = d → j ≤ ids.length → ∀ named : Bool, (named || (ids.drop j).any (fun v => v == q[n].f0)) = b → ∀ k, K + d ≤ k →
  tithebarnlaw17_LevelsKeeps.l1 k q rest first (n : Int) named (j : Int) lv tt ids bot one.f0 one.f1 one.f2.f0 one.f2.f1 one.f2.f2 one.f3.f0 one.f3.f1 one.f3.f2 = R := by
 intro d
 induction d with
 | zero =>
  intro j hd hj named hb k hk
  obtain rfl : j = ids.length := by omega
  rw [List.drop_length, List.any_nil, Bool.or_false] at hb
  subst hb
  exact hend k (by omega)
 | succ d ih =>
  intro j hd hj named hb k hk
  obtain ⟨k, rfl⟩ : ∃ k', k = k' + 1 := ⟨k - 1, by omega⟩
  have hlt : j < ids.length := by omega
  rw [List.drop_eq_getElem_cons hlt, List.any_cons] at hb
  rw [tithebarnlaw17_LevelsKeeps.l1, if_pos (by omega), wr_one j (by omega)]
  cases named with
  | true => rw [if_pos rfl]; exact ih (j + 1) (by omega) (by omega) true (by rw [← hb]; rfl) k (by omega)
  | false =>
   rw [if_neg (by decide), if_pos (by omega), if_pos (by omega), if_pos (by omega), rdI_at ids j hlt, rdP_at q n hn]
   exact ih (j + 1) (by omega) (by omega) _ (by rw [← hb]; rfl) k (by omega)
/-- what holds of the parts gone through -/
structure Going (q : List Pt) (ids : List Int) (lv : Int) (n : Nat) (rest : List Pt) (first : Bool) (one : Pt) : Prop where
 sub : rest.Sublist (q.take n)
 left : ∀ p ∈ rest, ids.any (fun v => v == p.f0) = false
 none : first = true → ∀ p ∈ q.take n, ids.any (fun v => v == p.f0) = false
 lo : first = false → ∃ y ∈ q, ids.any (fun v => v == y.f0) = true ∧ one.f2 = y.f2
 hi : first = false → ∃ y ∈ q, ids.any (fun v => v == y.f0) = true ∧ one.f3 = y.f3
 lev : one.f1 = lv + 1
set_option maxRecDepth 100000 in
theorem keeps.loop (q : List Pt) (hq : q.length ≤ 80) (hok : ∀ p ∈ q, OkP p) (lv : Int) (ids : List Int) (hi : ids.length ≤ 500) (bot : Bool)
  (hend : ∀ rest first one, Going q ids lv q.length rest first one → (∀ p ∈ rest, ovV p p = true) → disV (rest ++ [one]) = true) :
  ∀ (m n : Nat), q.length - n = m → n ≤ q.length → ∀ rest first (one : Pt), Going q ids lv n rest first one → OkP one → ∀ k, 1000 + m * 600 < k →
  tithebarnlaw17_LevelsKeeps.l0 k q rest first (n : Int) lv (lv + 1) ids bot one.f0 one.f1 one.f2.f0 one.f2.f1 one.f2.f2 one.f3.f0 one.f3.f1 one.f3.f2 = some true := by
 intro m
 induction m with
 | zero =>
  intro n hm hn rest first one hg ho k hk
  obtain ⟨k, rfl⟩ : ∃ k', k = k' + 1 := ⟨k - 1, by omega⟩
  obtain rfl : n = q.length := by omega
  have hrs := hg.sub
  rw [List.take_length] at hrs
  have hrl := hrs.length_le
  rw [tithebarnlaw17_LevelsKeeps.l0, if_neg (by omega), well.is rest (by omega) (fun p hp => hok p (hrs.subset hp)) k (by omega), Option.bind_some]
  cases hw : rest.all (fun p => ovV p p) with
  | false => rfl
  | true =>
   rw [if_pos rfl, if_pos (by omega)]
   have hd := hend rest first one hg (fun p hp => List.all_eq_true.1 hw p hp)
   have := disj.is (rest ++ [one]) (by simp; omega) k (by simp; omega)
   rw [hd] at this
   show (levels_Disjoint.f k (rest ++ [one])).bind (fun t480 => some t480) = some true
   rw [this]; rfl
 | succ m ih =>
  intro n hm hn rest first one hg ho k hk
  obtain ⟨k, rfl⟩ : ∃ k', k = k' + 1 := ⟨k - 1, by omega⟩
  have hlt : n < q.length := by omega
  have hrl := hg.sub.length_le
  have htk : q.take (n + 1) = q.take n ++ [q[n]] := List.take_succ_eq_append_getElem hlt
  have hokn := hok _ (List.getElem_mem hlt)
  rw [tithebarnlaw17_LevelsKeeps.l0, if_pos (by omega)]
  refine keeps.inner q rest first n hlt (by omega) lv (lv + 1) ids (by omega) bot one (ids.any (fun v => v == q[n].f0)) _ (1005 + m * 600) (fun k hk => ?_) ids.length 0 (by omega) (by omega) false (by rw [Bool.false_or, List.drop_zero]) k (by omega)
  obtain ⟨k, rfl⟩ : ∃ k', k = k' + 3 := ⟨k - 3, by omega⟩
  rw [tithebarnlaw17_LevelsKeeps.l1, if_neg (by omega)]
  cases hnm : ids.any (fun v => v == q[n].f0) with
  | false =>
   rw [if_neg (by decide), if_pos (by omega), if_pos (by omega), if_pos (by rw [List.length_take] at hrl; omega), rdP_at q n hlt, wr_one n (by omega)]
   refine ih (n + 1) (by omega) (by omega) (rest ++ [q[n]]) first one ⟨?_, ?_, ?_, hg.lo, hg.hi, hg.lev⟩ ho (k + 2) (by omega)
   ·rw [htk]; exact hg.sub.append (List.Sublist.refl _)
   ·intro p hp
    rcases List.mem_append.1 hp with h | h
    ·exact hg.left p h
    ·rw [List.mem_singleton.1 h]; exact hnm
   ·intro hf p hp
    rw [htk] at hp
    rcases List.mem_append.1 hp with h | h
    ·exact hg.none hf p h
    ·rw [List.mem_singleton.1 h]; exact hnm
  | true =>
   have hj4 : ∀ one' : Pt, OkP one' → one'.f1 = lv + 1 → (∃ y ∈ q, ids.any (fun v => v == y.f0) = true ∧ one'.f2 = y.f2) → (∃ y ∈ q, ids.any (fun v => v == y.f0) = true ∧ one'.f3 = y.f3) → tithebarnlaw17_LevelsKeeps.j4 (k + 1) q rest false (n : Int) lv (lv + 1) ids bot one'.f0 one'.f1 one'.f2.f0 one'.f2.f1 one'.f2.f2 one'.f3.f0 one'.f3.f1 one'.f3.f2 = some true := by
    intro one' ho' hl' hlo hhi
    rw [tithebarnlaw17_LevelsKeeps.j4, if_pos (by omega), if_pos (by omega), rdP_at q n hlt, wider.is one' q[n] ho' hokn, Option.bind_some, wr_one n (by omega)]
    refine ih (n + 1) (by omega) (by omega) rest false (stepV one' q[n]) ⟨?_, hg.left, fun h => (by cases h), fun _ => ?_, fun _ => ?_, hl'⟩ (stepV_ok ho' hokn) k (by omega)
    ·rw [htk]; exact hg.sub.trans (List.sublist_append_left _ _)
    ·show ∃ y ∈ q, _ ∧ (if lessV q[n].f2 one'.f2 = true then q[n].f2 else one'.f2) = y.f2
     split
     ·exact ⟨q[n], List.getElem_mem _, hnm, rfl⟩
     ·exact hlo
    ·show ∃ y ∈ q, _ ∧ (if lessV one'.f3 q[n].f3 = true then q[n].f3 else one'.f3) = y.f3
     split
     ·exact ⟨q[n], List.getElem_mem _, hnm, rfl⟩
     ·exact hhi
   have hj3 : ∀ b : Bool, tithebarnlaw17_LevelsKeeps.j3 (k + 2) q rest first (n : Int) b lv (lv + 1) ids bot one.f0 one.f1 one.f2.f0 one.f2.f1 one.f2.f2 one.f3.f0 one.f3.f1 one.f3.f2 = some true := by
    intro b
    rw [tithebarnlaw17_LevelsKeeps.j3]
    cases b with
    | true => rw [if_pos rfl]
    | false =>
     rw [if_neg (by decide)]
     cases first with
     | true =>
      rw [if_pos rfl, if_pos (by omega), if_pos (by omega), rdP_at q n hlt]
      exact hj4 ⟨one.f0, one.f1, q[n].f2, q[n].f3⟩ ⟨hokn.lo, hokn.hi⟩ hg.lev ⟨q[n], List.getElem_mem _, hnm, rfl⟩ ⟨q[n], List.getElem_mem _, hnm, rfl⟩
     | false => rw [if_neg (by decide)]; exact hj4 one ho hg.lev (hg.lo rfl) (hg.hi rfl)
   rw [if_pos rfl, if_pos (by omega), if_pos (by omega), rdP_at q n hlt, refOverlap.is _ _ hokn hokn, Option.bind_some]
   split
   ·exact hj3 _
   ·split
    ·exact hj3 _
    ·exact hj3 _
theorem LevelsKeeps_true (k : Nat) (hk : 100000 ≤ k) (l0 : List Pt) (hok : ∀ p ∈ l0, OkP p) : tithebarnlaw17_LevelsKeeps.f k l0 = some true := by
 unfold tithebarnlaw17_LevelsKeeps.f
 rw [lives17 k (by omega), Option.bind_some, if_pos rfl, early.is l0, Option.bind_some]
 have hlen : (l0.take 80).length ≤ 80 := by rw [List.length_take]; omega
 have hok2 : ∀ p ∈ l0.take 80, OkP p := fun p hp => hok p (List.mem_of_mem_take hp)
 generalize l0.take 80 = q at hlen hok2
 have hj : ∀ a b c d, tithebarnlaw17_LevelsKeeps.j0 k q true a b c d = some true := by
  intro a b c d
  obtain ⟨k, rfl⟩ : ∃ k', k = k' + 1 := ⟨k - 1, by omega⟩
  rw [tithebarnlaw17_LevelsKeeps.j0, if_pos rfl]
 cases hf : fullV q with
 | none =>
  rw [pick_none q (by omega) hf, Option.bind_some]
  exact hj _ _ _ _
 | some lv =>
  obtain ⟨x, t, h1, h2, h3, h4⟩ := pick_some q (by omega) lv hf
  have hlv := (fullV_lt hf).1
  rw [h4, Option.bind_some]
  show (levels_Disjoint.f k q).bind (fun t451 => (if t451 = true then ((tithebarnlaw17_unlike.f k q).bind fun t452 => (tithebarnlaw17_LevelsKeeps.j0 k q (!t452) (planV q lv x t).1 (planV q lv x t).2.1 (planV q lv x t).2.2.1 (planV q lv x t).2.2.2.1)) else (tithebarnlaw17_LevelsKeeps.j0 k q true (planV q lv x t).1 (planV q lv x t).2.1 (planV q lv x t).2.2.1 (planV q lv x t).2.2.2.1))) = _
  rw [disj.is q (by omega) k (by omega), Option.bind_some]
  cases hd : disV q with
  | false => exact hj _ _ _ _
  | true =>
   rw [if_pos rfl, unlike.is q hlen k (by omega), Option.bind_some]
   cases hu : unV q with
   | false => exact hj _ _ _ _
   | true =>
    obtain ⟨k, rfl⟩ : ∃ k', k = k' + 1 := ⟨k - 1, by omega⟩
    have hP := Plan.of q hu lv x t h1
    have hcl := onV_len q lv
    have hnl : (nextV q ((lv : Int) + 1) (spanV x t)).length ≤ 80 := by
     unfold nextV; rw [ssortP_len]
     exact Nat.le_trans (List.length_filter_le _ _) (Nat.le_trans (onV_len q _) hlen)
    have hnm : ∀ p, p ∈ nextV q ((lv : Int) + 1) (spanV x t) ↔ (p ∈ onV q ((lv : Int) + 1) ∧ ovV p (spanV x t) = true) := fun p => by
     unfold nextV; rw [(Stab.ssort_perm (lt := ltOf cfLo) _).mem_iff, List.mem_filter]
    have hs : ∀ y ∈ x :: t, lessV y.f2 (spanV x t).f2 = false ∧ lessV (spanV x t).f3 y.f3 = false := fun y hy => by
     rcases List.mem_cons.1 hy with rfl | hy
     ·exact (spanV_in t y).1
     ·exact (spanV_in t x).2 y hy
    have hids : ∀ p ∈ q, (((x :: t) ++ nextV q ((lv : Int) + 1) (spanV x t)).map (·.f0)).any (fun v => v == p.f0) = true ↔ p ∈ (x :: t) ++ nextV q ((lv : Int) + 1) (spanV x t) := fun p hp => by
     rw [List.any_eq_true]
     constructor
     ·rintro ⟨v, hv, he⟩
      obtain ⟨y, hy, rfl⟩ := List.mem_map.1 hv
      rw [← unV_same q hu y p (hP.inq y hy) hp (beq_iff_eq.1 he)]; exact hy
     ·intro h; exact ⟨p.f0, List.mem_map.2 ⟨p, h, rfl⟩, beq_self_eq_true _⟩
    have hxq : x ∈ q := hP.inq x (List.mem_append_left _ List.mem_cons_self)
    have hxn := (hids x hxq).2 (List.mem_append_left _ List.mem_cons_self)
    have hll : (((x :: t) ++ nextV q ((lv : Int) + 1) (spanV x t)).map (·.f0)).length ≤ 500 := by rw [List.length_map, List.length_append, List.length_cons]; omega
    rw [tithebarnlaw17_LevelsKeeps.j0, if_neg (by decide)]
    show tithebarnlaw17_LevelsKeeps.l0 k q [] true 0 lv ((lv : Int) + 1) (((x :: t) ++ nextV q ((lv : Int) + 1) (spanV x t)).map (·.f0)) (planV q lv x t).2.2.2.1 0 ((lv : Int) + 1) false 0 ⟨#[]⟩ false 0 ⟨#[]⟩ = some true
    generalize hI : ((x :: t) ++ nextV q ((lv : Int) + 1) (spanV x t)).map (·.f0) = ids at hids hxn hll
    refine keeps.loop q hlen hok2 lv ids hll _ (fun rest first one hg hw => ?_) q.length 0 (by omega) (by omega) [] true ⟨0, (lv : Int) + 1, ⟨false, 0, ⟨#[]⟩⟩, ⟨false, 0, ⟨#[]⟩⟩⟩ ⟨List.nil_sublist _, fun p h => (by cases h), fun _ p h => (by simp at h), fun h => (by cases h), fun h => (by cases h), rfl⟩ ⟨Nat.zero_le _, Nat.zero_le _⟩ k (by omega)
    have hfirst : first = false := by
     cases first with
     | false => rfl
     | true => have := hg.none rfl x (by rw [List.take_length]; exact hxq); rw [hxn] at this; cases this
    have hsub := hg.sub
    rw [List.take_length] at hsub
    obtain ⟨y, hy, hyn, ey⟩ := hg.lo hfirst
    obtain ⟨z, hz, hzn, ez⟩ := hg.hi hfirst
    exact keeps.end_ q (x :: t) (nextV q ((lv : Int) + 1) (spanV x t)) rest lv (spanV x t) one (by omega) hd hP hs (fun y hy => ((hnm y).1 hy).2) (fun p hp h1 hov => (hnm p).2 ⟨List.mem_filter.2 ⟨hp, by simpa using h1⟩, hov⟩) hsub
     (fun p hp h => by have h5 := hg.left p hp; rw [(hids p (hsub.subset hp)).2 h] at h5; cases h5) hw hg.lev ⟨y, (hids y hy).1 hyn, ey⟩ ⟨z, (hids z hz).1 hzn, ez⟩
theorem LevelsKeeps_walk (W : World) (A0 : Option Addr) (c0 : Nat) (l0 : List (S38)) (hc0 : l0.length ≤ c0) (hr0 : Kd.C k38 W A0 l0.length l0) (b0 : BL B38 l0 maxLen) :
  Calls Try.prog 5 #[.slice A0 l0.length c0] W fun e W' => e = .returned (.bool true) ∧ Below W.heap.size W W' := by
 obtain ⟨g0, g1⟩ := b0
 exact tithebarnlaw17_LevelsKeeps.calls 1000000 A0 c0 l0 true W hr0 hc0 (LevelsKeeps_true 1000000 (by omega) l0 (okP_of (Nat.le_refl _) g1))

end Go.Proofs.Ytcbgcmaioicdbaa.Pr
