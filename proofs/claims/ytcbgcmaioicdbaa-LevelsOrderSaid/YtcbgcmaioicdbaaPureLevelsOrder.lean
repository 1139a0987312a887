/- In which order the parts stand plays no part, if their Ids are unlike and levels are disjoint. -/
import Derived.Test.YtcbgcmaioicdbaaRdk
import Derived.Test.YtcbgcmaioicdbaaPr0
import Derived.Test.YtcbgcmaioicdbaaPrf10
import Derived.Test.YtcbgcmaioicdbaaPrf24
import Derived.Test.YtcbgcmaioicdbaaPrf25
import Derived.Test.YtcbgcmaioicdbaaPrf35xc
import Derived.Test.YtcbgcmaioicdbaaPrf6
import Derived.Test.YtcbgcmaioicdbaaPrzLev
import Derived.Test.YtcbgcmaioicdbaaPrzLev2
import Derived.Test.YtcbgcmaioicdbaaPrzLev3
import Derived.Test.YtcbgcmaioicdbaaPrzLev4
import Derived.Test.YtcbgcmaioicdbaaThy
namespace Go.Proofs.Ytcbgcmaioicdbaa.Pr
open Go.RowKit Go.Proofs.Ytcbgcmaioicdbaa.Brid Go.Proofs.YtcbgcmaioicdbaaW.PrintWords Go.Proofs.YtcbgcmaioicdbaaW.PrintLast Go.Proofs.YtcbgcmaioicdbaaW.PrintMore
set_option linter.unusedVariables false
set_option linter.unusedSimpArgs false
theorem onV_rev (l : List Pt) (a : Int) : onV l.reverse a = (onV l a).reverse := by unfold onV; rw [List.filter_reverse]
theorem fullV_rev (l : List Pt) : fullV l.reverse = fullV l := by
 unfold fullV; rw [onV_rev, onV_rev, onV_rev, List.length_reverse, List.length_reverse, List.length_reverse]
theorem chosenV_rev (l : List Pt) (a : Int) (hu : unV l = true) : chosenV l.reverse a = chosenV l a := by
 have hm : ∀ p ∈ onV l a, p ∈ l := fun p hp => (onV_mem hp).1
 unfold chosenV
 rw [onV_rev]
 generalize onV l a = q at hm
 by_cases ha : a > 0
 ·rw [if_pos ha, if_pos ha]
  cases hq : q with
  | nil => rfl
  | cons x t =>
   cases hr : (x :: t).reverse with
   | nil => have := congrArg List.length hr; simp at this
   | cons y u =>
    have hmem : ∀ p, p ∈ y :: u ↔ p ∈ x :: t := fun p => by rw [← hr]; exact List.mem_reverse
    have h1 := minOf_mem cfId t x
    have h2 := minOf_mem cfId u y
    have h3 := minOf_le t x _ ((hmem _).1 h2)
    have h4 := minOf_le u y _ ((hmem _).2 h1)
    have he := unV_same l hu _ _ (hm _ (by rw [hq]; exact (hmem _).1 h2)) (hm _ (by rw [hq]; exact h1)) (by omega)
    show some [Stab.minOf cfId y u] = some [Stab.minOf cfId x t]
    rw [he]
 ·rw [if_neg ha, if_neg ha]
  congr 1
  have hp : (Stab.ssort (ltOf cfDn) q.reverse).Perm (Stab.ssort (ltOf cfDn) q) := (Stab.ssort_perm _).trans ((List.reverse_perm q).trans (Stab.ssort_perm _).symm)
  refine srt_only hp (ssort_srt cfDn_swo _) (ssort_srt cfDn_swo _) (fun x hx y hy h1 h2 => ?_)
  have hx' := hm x (List.mem_reverse.1 ((Stab.ssort_perm (lt := ltOf cfDn) _).mem_iff.1 hx))
  have hy' := hm y (List.mem_reverse.1 ((Stab.ssort_perm (lt := ltOf cfDn) _).mem_iff.1 hy))
  rw [cfDn_lt] at h1 h2
  have h1' := of_decide_eq_false h1
  have h2' := of_decide_eq_false h2
  exact unV_same l hu x y hx' hy' (by omega)
theorem nextV_rev (l : List Pt) (a : Int) (s : Pt) (ha : a ≠ 0) (hd : disV l = true) (hw : ∀ p ∈ l, ovV p p = true) : nextV l.reverse a s = nextV l a s := by
 unfold nextV
 rw [onV_rev, List.filter_reverse]
 have hm : ∀ p ∈ (onV l a).filter (fun p => ovV p s), p ∈ l ∧ p.f1 = a := fun p hp => onV_mem (List.mem_filter.1 hp).1
 generalize (onV l a).filter (fun p => ovV p s) = q at hm
 have hp : (Stab.ssort (ltOf cfLo) q.reverse).Perm (Stab.ssort (ltOf cfLo) q) := (Stab.ssort_perm _).trans ((List.reverse_perm q).trans (Stab.ssort_perm _).symm)
 refine srt_only hp (ssort_srt cfLo_swo _) (ssort_srt cfLo_swo _) (fun x hx y hy h1 h2 => ?_)
 have hx' := hm x (List.mem_reverse.1 ((Stab.ssort_perm (lt := ltOf cfLo) _).mem_iff.1 hx))
 have hy' := hm y (List.mem_reverse.1 ((Stab.ssort_perm (lt := ltOf cfLo) _).mem_iff.1 hy))
 rcases mem_pair DisR.symm ((disV_iff l).1 hd) x hx'.1 y hy'.1 with h | h
 ·exact h
 ·exfalso
  have hov := h (by rw [hy'.2]; exact ha) (by rw [hx'.2, hy'.2])
  rw [cfLo_lt] at h1 h2
  have wx := hw x hx'.1
  have wy := hw y hy'.1
  unfold ovV at hov wx wy
  have wx' : Thy.less x.f3.f0 x.f3.f1 x.f3.f2 x.f2.f0 x.f2.f1 x.f2.f2 = false := by simpa using wx
  have wy' : Thy.less y.f3.f0 y.f3.f1 y.f3.f2 y.f2.f0 y.f2.f1 y.f2.f2 = false := by simpa using wy
  rw [Thy.notless_trans wy' h2, Thy.notless_trans wx' h1] at hov
  cases hov
theorem pick_rev (l : List Pt) (hl : l.length ≤ 1000) (hu : unV l = true) (hd : disV l = true) (hw : ∀ p ∈ l, ovV p p = true) : levels_Pick.f l.reverse = levels_Pick.f l := by
 have hl2 : l.reverse.length ≤ 1000 := by rw [List.length_reverse]; exact hl
 cases hf : fullV l with
 | none => rw [pick_none l hl hf, pick_none l.reverse hl2 (by rw [fullV_rev]; exact hf)]
 | some lv =>
  obtain ⟨x, t, h1, h2, h3, h4⟩ := pick_some l hl lv hf
  obtain ⟨x', t', h1', h2', h3', h4'⟩ := pick_some l.reverse hl2 lv (by rw [fullV_rev]; exact hf)
  rw [chosenV_rev l _ hu, h1] at h1'
  injection h1' with h1'
  injection h1' with e1 e2
  subst e1 e2
  rw [h4, h4']
  unfold planV
  rw [nextV_rev l _ _ (by omega) hd hw, List.any_reverse]
theorem order.loop (q : List Pt) (hq : q.length ≤ 80) (hu : unV q = true) (hd : disV q = true) (hw : ∀ p ∈ q, ovV p p = true) : ∀ (n : Nat), n ≤ q.length → ∀ k, n + 1000 < k → tithebarnlaw17_LevelsOrder.l0 k q (q.drop n).reverse ((n : Int) - 1) = some true := by
 intro n
 induction n with
 | zero =>
  intro hn k hk
  obtain ⟨k, rfl⟩ : ∃ k', k = k' + 1 := ⟨k - 1, by omega⟩
  obtain ⟨r, hr⟩ := pick_is q (by omega)
  have hi := pick_ids q (by omega) r hr
  have e5 : (r.2.2.2.2 == r.2.2.2.2) = true := beq_self_eq_true _
  rw [tithebarnlaw17_LevelsOrder.l0, if_neg (by omega), List.drop_zero, pick_rev q (by omega) hu hd hw, hr, Option.bind_some, Option.bind_some, if_pos e5, same.is r.2.2.1 r.1 r.2.1 r.2.2.2.1 (by omega) k (by omega)]
  rfl
 | succ n ih =>
  intro hn k hk
  obtain ⟨k, rfl⟩ : ∃ k', k = k' + 1 := ⟨k - 1, by omega⟩
  have hlt : n < q.length := by omega
  have e : (((n + 1 : Nat) : Int) - 1) = (n : Int) := by omega
  have hw1 : wrap64 ((n : Int) - 1) = (n : Int) - 1 := wr_small _ (by omega) (by omega)
  have hdr : (q.drop n).reverse = (q.drop (n + 1)).reverse ++ [q[n]] := by rw [List.drop_eq_getElem_cons hlt, List.reverse_cons]
  rw [e, tithebarnlaw17_LevelsOrder.l0, if_pos (by omega), if_pos (by omega), if_pos (by omega), if_pos (by rw [List.length_reverse, List.length_drop]; omega), rdP_at q n hlt, hw1]
  have := ih (by omega) k (by omega)
  rw [hdr] at this
  exact this
theorem LevelsOrder_true (k : Nat) (hk : 20000 ≤ k) (l0 : List Pt) (hok : ∀ p ∈ l0, OkP p) : tithebarnlaw17_LevelsOrder.f k l0 = some true := by
 unfold tithebarnlaw17_LevelsOrder.f
 rw [lives17 k (by omega), Option.bind_some, if_pos rfl, early.is l0, Option.bind_some]
 have hlen : (l0.take 80).length ≤ 80 := by rw [List.length_take]; omega
 have hok2 : ∀ p ∈ l0.take 80, OkP p := fun p hp => hok p (List.mem_of_mem_take hp)
 generalize l0.take 80 = q at hlen hok2
 have hj : tithebarnlaw17_LevelsOrder.j0 k q true = some true := by
  obtain ⟨k, rfl⟩ : ∃ k', k = k' + 1 := ⟨k - 1, by omega⟩
  rw [tithebarnlaw17_LevelsOrder.j0, if_pos rfl]
 rw [unlike.is q hlen k (by omega), Option.bind_some]
 cases hu : unV q with
 | false => rw [if_neg (by decide)]; exact hj
 | true =>
  rw [if_pos rfl, disj.is q (by omega) k (by omega), Option.bind_some]
  cases hd : disV q with
  | false => rw [if_neg (by decide)]; exact hj
  | true =>
   rw [if_pos rfl, well.is q (by omega) hok2 k (by omega), Option.bind_some]
   cases hw : q.all (fun p => ovV p p) with
   | false => exact hj
   | true =>
    obtain ⟨k, rfl⟩ : ∃ k', k = k' + 1 := ⟨k - 1, by omega⟩
    rw [tithebarnlaw17_LevelsOrder.j0, if_neg (by decide), wr_small _ (by omega) (by omega)]
    have h := order.loop q hlen hu hd (fun p hp => List.all_eq_true.1 hw p hp) q.length (Nat.le_refl _) k (by omega)
    rw [List.drop_length] at h
    exact h
theorem LevelsOrder_walk (W : World) (A0 : Option Addr) (c0 : Nat) (l0 : List (S38)) (hc0 : l0.length ≤ c0) (hr0 : Kd.C k38 W A0 l0.length l0) (b0 : BL B38 l0 maxLen) :
  Calls Try.prog 6 #[.slice A0 l0.length c0] W fun e W' => e = .returned (.bool true) ∧ Below W.heap.size W W' := by
 obtain ⟨g0, g1⟩ := b0
 exact tithebarnlaw17_LevelsOrder.calls 1000000 A0 c0 l0 true W hr0 hc0 (LevelsOrder_true 1000000 (by omega) l0 (okP_of (Nat.le_refl _) g1))

end Go.Proofs.Ytcbgcmaioicdbaa.Pr
