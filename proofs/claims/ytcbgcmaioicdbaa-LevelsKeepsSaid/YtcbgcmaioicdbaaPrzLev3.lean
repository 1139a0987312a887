/- Levels: whether levels are disjoint; the law's own parts. -/
import Derived.Test.YtcbgcmaioicdbaaRdk
import Derived.Test.YtcbgcmaioicdbaaPr0
import Derived.Test.YtcbgcmaioicdbaaPrf10
import Derived.Test.YtcbgcmaioicdbaaPrf13
import Derived.Test.YtcbgcmaioicdbaaPrf15
import Derived.Test.YtcbgcmaioicdbaaPrf24
import Derived.Test.YtcbgcmaioicdbaaPrf25
import Derived.Test.YtcbgcmaioicdbaaPrf35xc
import Derived.Test.YtcbgcmaioicdbaaPrf8
import Derived.Test.YtcbgcmaioicdbaaPrf9
import Derived.Test.YtcbgcmaioicdbaaPrzLev
import Derived.Test.YtcbgcmaioicdbaaPrzLev2
import Derived.Test.YtcbgcmaioicdbaaThy
namespace Go.Proofs.Ytcbgcmaioicdbaa.Pr
open Go.RowKit Go.Proofs.Ytcbgcmaioicdbaa.Brid Go.Proofs.YtcbgcmaioicdbaaW.PrintWords Go.Proofs.YtcbgcmaioicdbaaW.PrintLast Go.Proofs.YtcbgcmaioicdbaaW.PrintMore
set_option linter.unusedVariables false
set_option linter.unusedSimpArgs false
def badV (l : List Pt) (n : Nat) : Bool := (rd_T38 l (n : Int)).f1 != 0 && (l.take n).any (fun b => (rd_T38 l (n : Int)).f1 == b.f1 && ovV (rd_T38 l (n : Int)) b)
def disF (l : List Pt) : Nat → Nat → Bool
 | 0, _ => true
 | m + 1, n => if badV l n = true then false else disF l m (n + 1)
def disV (l : List Pt) : Bool := disF l l.length 0
theorem disj.loop (l : List Pt) (hl : l.length ≤ 1000000) : ∀ (m n : Nat), l.length - n = m → n ≤ l.length → ∀ k, m < k → levels_Disjoint.l0 k l l (l.length : Int) (n : Int) = some (disF l m n) := by
 intro m
 induction m with
 | zero =>
  intro n hm hn k hk
  obtain ⟨k, rfl⟩ : ∃ k', k = k' + 1 := ⟨k - 1, by omega⟩
  rw [levels_Disjoint.l0, if_neg (by omega)]; rfl
 | succ m ih =>
  intro n hm hn k hk
  obtain ⟨k, rfl⟩ : ∃ k', k = k' + 1 := ⟨k - 1, by omega⟩
  have hih := ih (n + 1) (by omega) (by omega) k (by omega)
  rw [levels_Disjoint.l0, if_pos (by omega), if_pos (by omega), if_pos (by omega), wr_one n (by omega), disF]
  unfold badV
  by_cases c : (rd_T38 l (n : Int)).f1 = 0
  ·rw [if_pos c, hih, if_neg (by simp [c])]
  ·rw [if_neg c, if_pos (by omega)]
   simp only [containsDisj.f, Option.bind_some, Int.toNat_natCast]
   have e : ((rd_T38 l (n : Int)).f1 != 0) = true := bne_iff_ne.2 c
   rw [e, Bool.true_and, hih]
   show (if (l.take n).any (fun b => (rd_T38 l (n : Int)).f1 == b.f1 && ovV (rd_T38 l (n : Int)) b) = true then some false else some (disF l m (n + 1))) = _
   split <;> rfl
theorem disj.is (l : List Pt) (hl : l.length ≤ 1000000) (k : Nat) (hk : l.length < k) : levels_Disjoint.f k l = some (disV l) := by
 unfold levels_Disjoint.f
 exact disj.loop l hl l.length 0 (by omega) (by omega) k hk
theorem calm.is (l : List Pt) (hl : l.length ≤ 1000000) : levels_Calm.f l = some (!(fullR l).2) := by
 unfold levels_Calm.f levels_full.f
 rw [if_pos (by omega)]; rfl
theorem pick_full (l : List Pt) (hl : l.length ≤ 1000) (r : Int × Int × List Int × Bool × Bool) (h : levels_Pick.f l = some r) : r.2.2.2.2 = (fullR l).2 := by
 unfold fullR
 cases hf : fullV l with
 | none => rw [pick_none l hl hf] at h; cases h; rfl
 | some lv =>
  obtain ⟨x, t, h1, h2, h3, h4⟩ := pick_some l hl lv hf
  rw [h4] at h; cases h; rfl
theorem pick_is (l : List Pt) (hl : l.length ≤ 1000) : ∃ r, levels_Pick.f l = some r := by
 cases hf : fullV l with
 | none => exact ⟨_, pick_none l hl hf⟩
 | some lv => obtain ⟨x, t, h1, h2, h3, h4⟩ := pick_some l hl lv hf; exact ⟨_, h4⟩
theorem early.is (l : List Pt) : tithebarnlaw17_early.f l = some (l.take 80) := by
 unfold tithebarnlaw17_early.f
 have h1 : (0 : Int) ≤ mn (l.length : Int) 80 := by unfold mn; split <;> omega
 have h2 : mn (l.length : Int) 80 ≤ (l.length : Int) := by unfold mn; split <;> omega
 rw [if_pos h1, if_pos h2]
 congr 1
 unfold mn
 split
 ·rfl
 ·rename_i h3; rw [Int.toNat_natCast, List.take_length, List.take_of_length_le (by omega)]
/-! the law's own parts -/
theorem lv_irr (b : Bool) (n : Int) : Thy.less b n ⟨#[]⟩ b n ⟨#[]⟩ = false := Thy.less_irrefl _ _ _
theorem lv_01 : Thy.less false 0 ⟨#[]⟩ false 1 ⟨#[]⟩ = true := by simp [Thy.less]
theorem lv_10 : Thy.less false 1 ⟨#[]⟩ false 0 ⟨#[]⟩ = false := by simp [Thy.less]
def lvP (i lv n : Int) : Pt := ⟨i, lv, ⟨false, n, ⟨#[]⟩⟩, ⟨false, n, ⟨#[]⟩⟩⟩
def lvL : List Pt := [lvP 1 0 0, lvP 4 0 0, lvP 2 0 0, lvP 3 0 0, lvP 9 1 1]
theorem lv_on0 : onV lvL 0 = [lvP 1 0 0, lvP 4 0 0, lvP 2 0 0, lvP 3 0 0] := by simp [onV, lvL, lvP]
theorem lv_on1 : onV lvL 1 = [lvP 9 1 1] := by simp [onV, lvL, lvP]
theorem lv_full : fullV lvL = some 0 := by unfold fullV; rw [lv_on0]; rfl
theorem lv_chosen : chosenV lvL ((0 : Nat) : Int) = some [lvP 4 0 0, lvP 3 0 0, lvP 2 0 0, lvP 1 0 0] := by
 unfold chosenV
 rw [if_neg (by omega), show onV lvL ((0 : Nat) : Int) = onV lvL 0 from rfl, lv_on0]
 simp [Stab.ssort, Stab.mrg, Stab.ins, cfDn_lt, lvP]
theorem lv_span : spanV (lvP 4 0 0) [lvP 3 0 0, lvP 2 0 0, lvP 1 0 0] = lvP 4 0 0 := by
 simp [spanV, stepV, lvP, lessV, lv_irr]
theorem lv_next (a : Pt) (ha : a = lvP 4 0 0) : nextV lvL (((0 : Nat) : Int) + 1) a = [] := by
 subst ha
 unfold nextV
 rw [show onV lvL (((0 : Nat) : Int) + 1) = onV lvL 1 from rfl, lv_on1]
 simp [ovV, lvP, lv_01, Stab.ssort, Stab.mrg]
theorem lv_plan : levels_Pick.f lvL = some (0, 1, [4, 3, 2, 1], true, true) := by
 obtain ⟨x, t, h1, h2, h3, h4⟩ := pick_some lvL (by simp [lvL]) 0 lv_full
 rw [lv_chosen] at h1
 injection h1 with h1
 injection h1 with hx ht
 subst hx ht
 rw [h4]
 unfold planV
 rw [lv_next _ lv_span]
 simp [lvL, lvP]
theorem lv_dis : disV lvL = true := by
 simp [disV, disF, badV, lvL, lvP, rd_T38]
theorem lives17 (k : Nat) (hk : 6 ≤ k) : tithebarnlaw17_lives_c.f k = some true := by
 refine tithebarnlaw17_lives_c.is ?_
 have hp := lv_plan
 have hd := disj.is lvL (by simp [lvL]) k (by simp [lvL]; omega)
 have hc := calm.is lvL (by simp [lvL])
 rw [lv_dis] at hd
 rw [show fullR lvL = (0, true) by unfold fullR; rw [lv_full]; rfl] at hc
 simp only [lvL, lvP] at hp hd hc
 simp only [tithebarnlaw17_lives.f, hp, hd, hc, Option.bind_some]
 simp [rd]
theorem okP_of {l : List Pt} {n : Nat} (hn : n ≤ 9223372036854775807) (h : ∀ p ∈ l, B38 p n) : ∀ p ∈ l, OkP p := fun p hp =>
 ⟨Nat.le_trans (B36_open (B38_open (h p hp)).2.2.1).2.2 hn, Nat.le_trans (B36_open (B38_open (h p hp)).2.2.2).2.2 hn⟩

end Go.Proofs.Ytcbgcmaioicdbaa.Pr
