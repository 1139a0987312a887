/- The groups of rows, or that a column isn't there, and their total, is what the document says. -/
import Derived.Test.YthlelhndmnkmjaaRdk
import Derived.Test.YthlelhndmnkmjaaPr0
import Derived.Test.YthlelhndmnkmjaaPrf10
import Derived.Test.YthlelhndmnkmjaaPrf24
import Derived.Test.YthlelhndmnkmjaaPrf27
import Derived.Test.YthlelhndmnkmjaaPrf28
import Derived.Test.YthlelhndmnkmjaaPrf29
import Derived.Test.YthlelhndmnkmjaaPrf30
import Derived.Test.YthlelhndmnkmjaaPrf31
import Derived.Test.YthlelhndmnkmjaaPrf32
import Derived.Test.YthlelhndmnkmjaaPrf33
import Derived.Test.YthlelhndmnkmjaaPrf50
import Derived.Test.YthlelhndmnkmjaaPrf58
import Derived.Test.YthlelhndmnkmjaaPrf59
import Derived.Test.YthlelhndmnkmjaaPrf60
import Derived.Test.YthlelhndmnkmjaaPrf61
import Derived.Test.YthlelhndmnkmjaaPrf80
import Derived.Test.YthlelhndmnkmjaaPrzGrp
import Derived.Test.YthlelhndmnkmjaaPrzGrp2
import Derived.Test.YthlelhndmnkmjaaPrzGrp3
import Derived.Test.YthlelhndmnkmjaaPrzGrp4
import Derived.Test.YthlelhndmnkmjaaPrzSums
import Derived.Test.YthlelhndmnkmjaaThy
namespace Go.Proofs.Ythlelhndmnkmjaa.Pr
open Go.RowKit Go.Proofs.Ythlelhndmnkmjaa.Brid Go.Proofs.YthlelhndmnkmjaaW.PrintWords Go.Proofs.YthlelhndmnkmjaaW.PrintLast Go.Proofs.YthlelhndmnkmjaaW.PrintMore
set_option linter.unusedVariables false
set_option linter.unusedSimpArgs false
abbrev SZ (s : ByteArray) : Prop := s.size ≤ 9223372036854775807
theorem u64_sum (a b : Int) : wrap64 (IntKind.u64.wrap ((IntKind.u64.wrap a) + (IntKind.u64.wrap b))) = wrap64 (a + b) := by
 have hu : ∀ n : Int, IntKind.u64.wrap n = n % 18446744073709551616 := fun n => by rfl
 rw [hu, hu, hu]
 unfold wrap64
 omega
theorem refJoin.is (a b : Sm) (k : Nat) (h1 : SZ a.lo.f2) (h2 : SZ a.hi.f2) (h3 : SZ b.lo.f2) (h4 : SZ b.hi.f2) : tithebarnref18_Join.f (k + 4) a.c a.s a.v a.lo.f0 a.lo.f1 a.lo.f2 a.hi.f0 a.hi.f1 a.hi.f2 b.c b.s b.v b.lo.f0 b.lo.f1 b.lo.f2 b.hi.f0 b.hi.f1 b.hi.f2 = some (joinV a b).tup := by
 have ha : tithebarnref02_Ahead_c.f b.lo.f0 b.lo.f1 b.lo.f2 a.lo.f0 a.lo.f1 a.lo.f2 = some (lessV b.lo a.lo) := by
  unfold tithebarnref02_Ahead_c.f; rw [if_pos h3]; rfl
 have hb : tithebarnref02_Ahead_c.f a.hi.f0 a.hi.f1 a.hi.f2 b.hi.f0 b.hi.f1 b.hi.f2 = some (lessV a.hi b.hi) := by
  unfold tithebarnref02_Ahead_c.f; rw [if_pos h2]; rfl
 simp only [tithebarnref18_Join.f, u64_sum]
 by_cases c1 : a.v ≤ 0
 ·rw [if_neg (by omega), tithebarnref18_Join.j0]
  by_cases c2 : b.v ≤ 0
  ·rw [if_neg (by omega), tithebarnref18_Join.j1, if_neg (by decide), tithebarnref18_Join.j2, if_neg (by omega), tithebarnref18_Join.j3, if_neg (by decide)]
   simp [joinV, Sm.tup, c1, c2, z37]
  ·rw [if_pos (by omega), if_pos c1, tithebarnref18_Join.j1, if_pos rfl, tithebarnref18_Join.j2, if_pos (by omega), if_pos c1, tithebarnref18_Join.j3, if_pos rfl]
   simp [joinV, Sm.tup, c1, c2]
 ·rw [if_pos (by omega), tithebarnref18_Join.j0]
  by_cases c2 : b.v ≤ 0
  ·rw [if_neg (by omega), tithebarnref18_Join.j1, if_neg (by decide), tithebarnref18_Join.j2, if_neg (by omega), tithebarnref18_Join.j3, if_neg (by decide)]
   simp [joinV, Sm.tup, c1, c2]
  ·rw [if_pos (by omega), if_neg c1, ha, Option.bind_some, tithebarnref18_Join.j1]
   have fin : ∀ (lo : S37), lo = (if lessV b.lo a.lo = true then b.lo else a.lo) → tithebarnref18_Join.j2 (k + 2) a.c a.s a.v a.lo.f0 a.lo.f1 a.lo.f2 a.hi.f0 a.hi.f1 a.hi.f2 b.c b.s b.v b.lo.f0 b.lo.f1 b.lo.f2 b.hi.f0 b.hi.f1 b.hi.f2 (wrap64 (a.c + b.c)) (wrap64 (a.s + b.s)) (wrap64 (a.v + b.v)) lo.f0 lo.f1 lo.f2 a.hi.f0 a.hi.f1 a.hi.f2 = some (joinV a b).tup := by
    intro lo hlo
    rw [tithebarnref18_Join.j2, if_pos (by omega), if_neg c1, hb, Option.bind_some, tithebarnref18_Join.j3]
    simp only [joinV, Sm.tup, if_neg c1, if_neg c2, ← hlo]
    cases lessV a.hi b.hi <;> rfl
   cases hl : lessV b.lo a.lo with
   | true => rw [if_pos rfl]; exact fin b.lo (by rw [hl]; rfl)
   | false => rw [if_neg (by decide)]; exact fin a.lo (by rw [hl]; rfl)
theorem refFold.one (r : RowV) (col : Int) (k : Nat) (hz : ∀ x ∈ r, SZ x.f2) (hr : r.length ≤ 9223372036854775807) : tithebarnref18_Fold.f (k + 6) [r] col = some (if noneB r col then zeroS.tup10 7 else (joinV zeroS (oneV (rd_T37 r col))).tup10 0) := by
 have r0 : rd_L7 [r] 0 = r := by simp [rd_L7]
 have w1 : wrap64 (0 + 1) = 1 := by unfold wrap64; omega
 simp only [tithebarnref18_Fold.f]
 rw [tithebarnref18_Fold.l0, if_pos (by simp), r0]
 by_cases c1 : col < 0
 ·have hn : noneB r col = true := by simp [noneB, c1]
  rw [if_pos c1, tithebarnref18_Fold.j1, if_pos rfl, hn]; rfl
 ·by_cases c2 : (r.length : Int) ≤ col
  ·have hn : noneB r col = true := by simp [noneB, c2]
   rw [if_neg c1, if_pos (by omega), tithebarnref18_Fold.j1, if_pos (by simpa using c2), hn]; rfl
  ·have hn : noneB r col = false := by simp [noneB]; omega
   have hd : decide (col ≥ (r.length : Int)) = false := by simp; omega
   rw [if_neg c1, if_pos (by omega), hd, tithebarnref18_Fold.j1, if_neg (by decide), if_pos (by omega), if_pos (by simp), if_pos (by omega), r0, if_pos (by omega), hn, w1]
   simp only [Bool.false_eq_true, if_false]
   have hw : ∀ s : Int, wrap64 (wrap64 s) = wrap64 s := fun s => by unfold wrap64; omega
   cases hv : (rd_T37 r col).f0 with
   | true =>
    rw [if_pos rfl, tithebarnref18_Fold.l0, if_neg (by simp)]
    simp [joinV, oneV, hv, zeroS, Sm.tup10, z37, wrap64]
   | false =>
    rw [if_neg (by decide)]
    simp only [tithebarnref18_add.f, if_true, u64_sum]
    rw [tithebarnref18_add.j0, if_pos rfl, tithebarnref18_add.j1, if_pos rfl, tithebarnref18_add.j2, if_pos rfl]
    simp only [Option.bind_some, u64_sum]
    rw [tithebarnref18_Fold.l0, if_neg (by simp)]
    have hs := u64_sum 0 (rd_T37 r col).f1
    simp [joinV, oneV, hv, zeroS, Sm.tup10, wrap64]
/-- groups with one more -/
def addV (p : S49) : List S49 → List S49
 | [] => [p]
 | x :: l => if lessV x.f0 p.f0 = true then x :: addV p l else if eqK x.f0 p.f0 = true then ⟨x.f0, ofSm (joinV (toSm x.f1) (toSm p.f1))⟩ :: l else p :: x :: l
theorem addV_len (p : S49) : ∀ l, (addV p l).length ≤ l.length + 1
 | [] => by simp [addV]
 | x :: l => by
  unfold addV
  split
  ·simp only [List.length_cons]; have := addV_len p l; omega
  ·split <;> simp
structure OkG (g : S49) : Prop where
 k : SZ g.f0.f2
 lo : SZ g.f1.f3.f2
 hi : SZ g.f1.f4.f2
theorem OkG.join {x p : S49} (hx : OkG x) (hp : OkG p) : OkG ⟨x.f0, ofSm (joinV (toSm x.f1) (toSm p.f1))⟩ := by
 refine ⟨hx.k, ?_, ?_⟩
 ·show SZ (joinV (toSm x.f1) (toSm p.f1)).lo.f2
  simp only [joinV]
  split
  ·split
   ·exact Nat.zero_le _
   ·exact hp.lo
  ·split
   ·exact hx.lo
   ·split
    ·exact hp.lo
    ·exact hx.lo
 ·show SZ (joinV (toSm x.f1) (toSm p.f1)).hi.f2
  simp only [joinV]
  split
  ·split
   ·exact Nat.zero_le _
   ·exact hp.hi
  ·split
   ·exact hx.hi
   ·split
    ·exact hp.hi
    ·exact hx.hi
theorem addV_ok (p : S49) (hp : OkG p) : ∀ l, (∀ g ∈ l, OkG g) → ∀ g ∈ addV p l, OkG g
 | [], _, g, hg => by rw [List.mem_singleton.1 hg]; exact hp
 | x :: l, h, g, hg => by
  unfold addV at hg
  split at hg
  ·rcases List.mem_cons.1 hg with rfl | hg
   ·exact h _ List.mem_cons_self
   ·exact addV_ok p hp l (fun q hq => h q (List.mem_cons_of_mem _ hq)) g hg
  ·split at hg
   ·rcases List.mem_cons.1 hg with rfl | hg
    ·exact (h x List.mem_cons_self).join hp
    ·exact h g (List.mem_cons_of_mem _ hg)
   ·rcases List.mem_cons.1 hg with rfl | hg
    ·exact hp
    ·exact h g hg
theorem add.tail (l : List S49) (p : S49) (hl : l.length ≤ 1000000) (hok : ∀ g ∈ l, OkG g) (hp : OkG p) (n : Nat) (hn : n ≤ l.length) (k : Nat)
  (hstop : ∀ x t, l.drop n = x :: t → lessV x.f0 p.f0 = false) :
  tithebarnref24_add.j1 (k + 6) l (n : Int) false p.f0.f0 p.f0.f1 p.f0.f2 p.f1.f0 p.f1.f1 p.f1.f2 p.f1.f3.f0 p.f1.f3.f1 p.f1.f3.f2 p.f1.f4.f0 p.f1.f4.f1 p.f1.f4.f2 = some (l.take n ++ addV p (l.drop n)) := by
 have hins : ∀ (h : ¬ ∃ x t, l.drop n = x :: t ∧ eqK x.f0 p.f0 = true), l.take n ++ addV p (l.drop n) = (l.take n ++ [p]) ++ l.drop n := by
  intro h
  cases hd : l.drop n with
  | nil => simp [addV]
  | cons x t =>
   have h1 := hstop x t hd
   have h2 : ¬ eqK x.f0 p.f0 = true := fun he => h ⟨x, t, hd, he⟩
   rw [addV, if_neg (by rw [h1]; decide), if_neg h2]; simp
 have fin : (¬ ∃ x t, l.drop n = x :: t ∧ eqK x.f0 p.f0 = true) → tithebarnref24_add.j2 (k + 5) l (n : Int) l false p.f0.f0 p.f0.f1 p.f0.f2 p.f1.f0 p.f1.f1 p.f1.f2 p.f1.f3.f0 p.f1.f3.f1 p.f1.f3.f2 p.f1.f4.f0 p.f1.f4.f1 p.f1.f4.f2 = some (l.take n ++ addV p (l.drop n)) := by
  intro h
  rw [tithebarnref24_add.j2, if_neg (by decide), if_pos (by omega), if_pos (by omega)]
  simp only [Option.bind_some, Int.toNat_natCast]
  rw [if_pos (by rw [List.length_take]; omega), if_pos (by omega), if_pos (by rw [List.length_append, List.length_drop, List.length_take]; simp; omega), hins h]
 rw [tithebarnref24_add.j1, if_neg (by decide), if_pos (by simp; omega)]
 simp only [List.nil_append, Option.bind_some]
 by_cases hlt : n < l.length
 ·have hd : l.drop n = l[n] :: l.drop (n + 1) := List.drop_eq_getElem_cons hlt
  rw [if_pos (by omega), if_pos (by omega), rdG_at l n hlt]
  simp only [tithebarnref02_Compare_c.f]
  rw [if_pos (hok _ (List.getElem_mem _)).k, if_pos hp.k, Option.bind_some]
  by_cases he : eqK l[n].f0 p.f0 = true
  ·have hst := hstop _ _ hd
   rw [show (Thy.cmpV l[n].f0.f0 l[n].f0.f1 l[n].f0.f2 p.f0.f0 p.f0.f1 p.f0.f2 == 0) = true from beq_iff_eq.2 (of_decide_eq_true he), tithebarnref24_add.j2, if_pos rfl, if_pos (by omega), if_pos (by omega), rdG_at l n hlt]
   have hj := refJoin.is (toSm l[n].f1) (toSm p.f1) k (hok _ (List.getElem_mem _)).lo (hok _ (List.getElem_mem _)).hi hp.lo hp.hi
   rw [show tithebarnref18_Join.f (k + 4) l[n].f1.f0 l[n].f1.f1 l[n].f1.f2 l[n].f1.f3.f0 l[n].f1.f3.f1 l[n].f1.f3.f2 l[n].f1.f4.f0 l[n].f1.f4.f1 l[n].f1.f4.f2 p.f1.f0 p.f1.f1 p.f1.f2 p.f1.f3.f0 p.f1.f3.f1 p.f1.f3.f2 p.f1.f4.f0 p.f1.f4.f1 p.f1.f4.f2 = some (joinV (toSm l[n].f1) (toSm p.f1)).tup from hj, Option.bind_some, if_pos (by omega)]
   rw [hd, addV, if_neg (by rw [hst]; decide), if_pos he, Int.toNat_natCast]
   show some (l.set n (⟨l[n].f0, ofSm (joinV (toSm l[n].f1) (toSm p.f1))⟩ : S49)) = _
   rw [List.set_eq_take_append_cons_drop, if_pos hlt]
  ·have hne : ¬ Thy.cmpV l[n].f0.f0 l[n].f0.f1 l[n].f0.f2 p.f0.f0 p.f0.f1 p.f0.f2 = 0 := fun h => he (decide_eq_true h)
   rw [show (Thy.cmpV l[n].f0.f0 l[n].f0.f1 l[n].f0.f2 p.f0.f0 p.f0.f1 p.f0.f2 == 0) = false from beq_eq_false_iff_ne.2 hne]
   exact fin (fun ⟨x, t, h1, h2⟩ => by rw [hd] at h1; injection h1 with h1 _; subst h1; exact he h2)
 ·rw [if_neg (by omega)]
  exact fin (fun ⟨x, t, h1, h2⟩ => by rw [List.drop_eq_nil_of_le (by omega)] at h1; cases h1)
theorem add.loop (l : List S49) (p : S49) (hl : l.length ≤ 1000000) (hok : ∀ g ∈ l, OkG g) (hp : OkG p) : ∀ (d k n : Nat), n + d = l.length →
  tithebarnref24_add.l0 (k + 2 * d + 7) l (n : Int) p.f0.f0 p.f0.f1 p.f0.f2 p.f1.f0 p.f1.f1 p.f1.f2 p.f1.f3.f0 p.f1.f3.f1 p.f1.f3.f2 p.f1.f4.f0 p.f1.f4.f1 p.f1.f4.f2 = some (l.take n ++ addV p (l.drop n)) := by
 intro d
 induction d with
 | zero =>
  intro k n hn
  rw [show k + 2 * 0 + 7 = (k + 6) + 1 by omega, tithebarnref24_add.l0, if_neg (by omega)]
  exact add.tail l p hl hok hp n (by omega) k (fun x t h => by rw [List.drop_eq_nil_of_le (by omega)] at h; cases h)
 | succ d ih =>
  intro k n hn
  have hlt : n < l.length := by omega
  have hd : l.drop n = l[n] :: l.drop (n + 1) := List.drop_eq_getElem_cons hlt
  rw [show k + 2 * (d + 1) + 7 = ((k + 2 * d + 2 + 6) + 1) by omega, tithebarnref24_add.l0, if_pos (by omega), if_pos (by omega), rdG_at l n hlt]
  simp only [tithebarnref02_Ahead_c.f]
  rw [if_pos (hok _ (List.getElem_mem _)).k, Option.bind_some]
  by_cases hc : lessV l[n].f0 p.f0 = true
  ·rw [show Thy.less l[n].f0.f0 l[n].f0.f1 l[n].f0.f2 p.f0.f0 p.f0.f1 p.f0.f2 = true from hc, show k + 2 * d + 2 + 6 = (k + 2 * d + 7) + 1 by omega, tithebarnref24_add.j1, if_pos rfl, wr_one n (by omega), ih k (n + 1) (by omega), hd, addV, if_pos hc, List.take_succ_eq_append_getElem hlt, List.append_assoc, List.singleton_append]
  ·rw [show Thy.less l[n].f0.f0 l[n].f0.f1 l[n].f0.f2 p.f0.f0 p.f0.f1 p.f0.f2 = false from by simpa [lessV] using hc]
   exact add.tail l p hl hok hp n (by omega) (k + 2 * d + 2) (fun x t h => by rw [hd] at h; injection h with h _; subst h; simpa using hc)
theorem add.is (l : List S49) (p : S49) (hl : l.length ≤ 1000000) (hok : ∀ g ∈ l, OkG g) (hp : OkG p) (k : Nat) :
  tithebarnref24_add.f (k + 2 * l.length + 7) l p.f0.f0 p.f0.f1 p.f0.f2 p.f1.f0 p.f1.f1 p.f1.f2 p.f1.f3.f0 p.f1.f3.f1 p.f1.f3.f2 p.f1.f4.f0 p.f1.f4.f1 p.f1.f4.f2 = some (addV p l) := by
 have := add.loop l p hl hok hp l.length k 0 (by omega)
 rw [List.drop_zero, List.take_zero, List.nil_append] at this
 exact this
/-- groups with one more, with their rows -/
def addI (p : It) : List It → List It
 | [] => [p]
 | x :: L => if ltI x p = true then x :: addI p L else if eqK x.1.f0 p.1.f0 = true then (⟨x.1.f0, ofSm (joinV (toSm x.1.f1) (toSm p.1.f1))⟩, x.2 ++ p.2) :: L else p :: x :: L
theorem addI_fst (p : It) : ∀ L, (addI p L).map Prod.fst = addV p.1 (L.map Prod.fst)
 | [] => rfl
 | x :: L => by
  rw [List.map_cons, addI, addV]
  show List.map Prod.fst (if lessV x.1.f0 p.1.f0 = true then _ else _) = _
  split
  ·rw [List.map_cons, addI_fst p L]
  ·split <;> rfl
theorem addI_low (x p : It) (hx : ltI x p = true) : ∀ L, (∀ q ∈ L, ltI x q = true) → ∀ q ∈ addI p L, ltI x q = true
 | [], _, q, hq => by rw [List.mem_singleton.1 hq]; exact hx
 | y :: L, h, q, hq => by
  unfold addI at hq
  split at hq
  ·rcases List.mem_cons.1 hq with rfl | hq
   ·exact h _ List.mem_cons_self
   ·exact addI_low x p hx L (fun r hr => h r (List.mem_cons_of_mem _ hr)) q hq
  ·split at hq
   ·rcases List.mem_cons.1 hq with rfl | hq
    ·exact h y List.mem_cons_self
    ·exact h q (List.mem_cons_of_mem _ hq)
   ·rcases List.mem_cons.1 hq with rfl | hq
    ·exact hx
    ·exact h q hq
theorem no_rows {key col : Int} (k : S37) {q : It} (hq : Item key col q) (hn : eqK k q.1.f0 = false) : q.2.filter (fun r => eqK k (rd_T37 r key)) = [] := List.filter_eq_nil_iff.2 (fun r hr h => by
 rw [eqK_trans h (eqK_symm (hq.keys r hr))] at hn; cases hn)
theorem no_rowsL {key col : Int} (k : S37) : ∀ L : List It, (∀ q ∈ L, Item key col q ∧ eqK k q.1.f0 = false) → (L.flatMap Prod.snd).filter (fun r => eqK k (rd_T37 r key)) = []
 | [], _ => rfl
 | q :: L, h => by
  rw [List.flatMap_cons, List.filter_append, no_rows k (h q List.mem_cons_self).1 (h q List.mem_cons_self).2, no_rowsL k L (fun x hx => h x (List.mem_cons_of_mem _ hx))]; rfl
theorem eqK_lt {k a b : S37} (h : eqK k a = true) (hl : lessV a b = true) : eqK k b = false := by
 cases hh : eqK k b with
 | false => rfl
 | true => have h2 := eqK_trans (eqK_symm h) hh; rw [eqK_less.2 (.inl hl)] at h2; cases h2
theorem addI_grouped {key col : Int} (p : It) (hp : Item key col p) : ∀ L : List It, (∀ q ∈ L, Item key col q) → L.Pairwise (fun a b => ltI a b = true) → (L.flatMap Prod.snd).length + p.2.length < 9223372036854775808 →
  (∀ q ∈ addI p L, Item key col q) ∧ (addI p L).Pairwise (fun a b => ltI a b = true) ∧ (L.flatMap Prod.snd ++ p.2).Perm ((addI p L).flatMap Prod.snd) ∧
   ∀ k : S37, (L.flatMap Prod.snd ++ p.2).filter (fun r => eqK k (rd_T37 r key)) = ((addI p L).flatMap Prod.snd).filter (fun r => eqK k (rd_T37 r key))
 | [], _, _, _ => by
  refine ⟨fun q hq => by rw [List.mem_singleton.1 hq]; exact hp, List.pairwise_singleton _ _, ?_, fun k => ?_⟩
  ·simp [addI]
  ·simp [addI]
 | x :: L, hI, hS, hlen => by
  have hS' := List.pairwise_cons.1 hS
  have hx := hI x List.mem_cons_self
  have hIL : ∀ q ∈ L, Item key col q := fun q hq => hI q (List.mem_cons_of_mem _ hq)
  rw [List.flatMap_cons, List.length_append] at hlen
  unfold addI
  by_cases c : ltI x p = true
  ·rw [if_pos c]
   obtain ⟨h1, h2, h3, h4⟩ := addI_grouped p hp L hIL hS'.2 (by omega)
   refine ⟨fun q hq => ?_, List.pairwise_cons.2 ⟨addI_low x p c L hS'.1, h2⟩, ?_, fun k => ?_⟩
   ·rcases List.mem_cons.1 hq with rfl | hq
    ·exact hx
    ·exact h1 q hq
   ·rw [List.flatMap_cons, List.flatMap_cons, List.append_assoc]; exact h3.append_left _
   ·rw [List.flatMap_cons, List.flatMap_cons, List.append_assoc, List.filter_append, h4 k, ← List.filter_append]
  ·rw [if_neg c]
   by_cases e : eqK x.1.f0 p.1.f0 = true
   ·rw [if_pos e]
    refine ⟨fun q hq => ?_, List.pairwise_cons.2 ⟨fun q hq => hS'.1 q hq, hS'.2⟩, ?_, fun k => ?_⟩
    ·rcases List.mem_cons.1 hq with rfl | hq
     ·refine ⟨?_, ?_, ?_⟩
      ·obtain ⟨r, t, h1, h2⟩ := hx.hd
       exact ⟨r, t ++ p.2, by show x.2 ++ p.2 = _; rw [h1]; rfl, h2⟩
      ·intro r hr
       rcases List.mem_append.1 hr with hr | hr
       ·exact hx.keys r hr
       ·exact eqK_trans e (hp.keys r hr)
      ·show Says (toSm (ofSm (joinV (toSm x.1.f1) (toSm p.1.f1)))) (colV (x.2 ++ p.2) col)
       rw [show colV (x.2 ++ p.2) col = colV x.2 col ++ colV p.2 col by simp [colV]]
       exact hx.sums.join hp.sums (by simp [colV]; omega)
     ·exact hIL q hq
    ·rw [List.flatMap_cons, List.flatMap_cons]
     show (x.2 ++ L.flatMap Prod.snd ++ p.2).Perm (x.2 ++ p.2 ++ L.flatMap Prod.snd)
     rw [List.append_assoc, List.append_assoc]
     exact (List.perm_append_comm).append_left _
    ·rw [List.flatMap_cons, List.flatMap_cons]
     show (x.2 ++ L.flatMap Prod.snd ++ p.2).filter _ = (x.2 ++ p.2 ++ L.flatMap Prod.snd).filter _
     rw [List.filter_append, List.filter_append, List.filter_append, List.filter_append]
     cases hk : eqK k x.1.f0 with
     | true => rw [no_rowsL k L (fun q hq => ⟨hIL q hq, eqK_lt hk (hS'.1 q hq)⟩), List.append_nil, List.append_nil]
     | false =>
      have hkp : eqK k p.1.f0 = false := by
       cases h : eqK k p.1.f0 with
       | false => rfl
       | true => rw [eqK_trans h (eqK_symm e)] at hk; cases hk
      rw [no_rows k hp hkp, List.append_nil, List.append_nil]
   ·rw [if_neg e]
    have hpx : ltI p x = true := by
     rcases eqK_less.1 (show eqK x.1.f0 p.1.f0 = false by simpa using e) with h | h
     ·exact absurd h c
     ·exact h
    have hall : ∀ q ∈ x :: L, ltI p q = true := fun q hq => by
     rcases List.mem_cons.1 hq with rfl | hq
     ·exact hpx
     ·exact ltI_swo.trans _ _ _ hpx (hS'.1 q hq)
    refine ⟨fun q hq => ?_, List.pairwise_cons.2 ⟨hall, hS⟩, ?_, fun k => ?_⟩
    ·rcases List.mem_cons.1 hq with rfl | hq
     ·exact hp
     ·exact hI q hq
    ·rw [List.flatMap_cons]; exact List.perm_append_comm
    ·rw [show (p :: x :: L).flatMap Prod.snd = p.2 ++ (x :: L).flatMap Prod.snd from List.flatMap_cons, List.filter_append, List.filter_append]
     cases hk : eqK k p.1.f0 with
     | true => rw [no_rowsL k (x :: L) (fun q hq => ⟨hI q hq, eqK_lt hk (hall q hq)⟩), List.append_nil, List.nil_append]
     | false => rw [no_rows k hp hk, List.append_nil, List.nil_append]
theorem Grouped.add {key col : Int} {rows : List RowV} {G : List It} (h : Grouped key col rows G) (r : RowV) (hw : (Lit.int .i64 (rd_T37 r col).f1).wf = true) (hl : rows.length + 1 < 9223372036854775808) :
  Grouped key col (rows ++ [r]) (addI (mkG key col r, [r]) G) := by
 have hp := mkG_item key col r hw
 have hlen := h.perm.length_eq
 obtain ⟨h1, h2, h3, h4⟩ := addI_grouped _ hp G h.items h.strict (by rw [← hlen]; simpa using hl)
 refine ⟨h1, h2, (h.perm.append_right _).trans h3, fun k => ?_⟩
 rw [← h4 k, List.filter_append, List.filter_append, h.flat k]
theorem rdT_sz_gb (r : RowV) (c : Int) (h : ∀ x ∈ r, SZ x.f2) : SZ (rd_T37 r c).f2 := by
 unfold rd_T37
 rw [List.getD_eq_getElem?_getD]
 cases hh : r[c.toNat]? with
 | none => exact Nat.zero_le _
 | some x => exact h x (List.mem_of_getElem? hh)
theorem mkG_ok (key col : Int) (r : RowV) (h : ∀ x ∈ r, SZ x.f2) : OkG (mkG key col r) := by
 have hv := rdT_sz_gb r col h
 refine ⟨rdT_sz_gb r key h, ?_, ?_⟩
 ·show SZ (joinV zeroS (oneV (rd_T37 r col))).lo.f2
  unfold oneV; split
  ·exact Nat.zero_le _
  ·exact hv
 ·show SZ (joinV zeroS (oneV (rd_T37 r col))).hi.f2
  unfold oneV; split
  ·exact Nat.zero_le _
  ·exact hv
theorem refBy.loop (key col : Int) (rows : List RowV) (hl : rows.length ≤ 1000) (hr : ∀ r ∈ rows, r.length ≤ 9223372036854775807) (hz : ∀ r ∈ rows, ∀ x ∈ r, SZ x.f2) (hw : ∀ r ∈ rows, ∀ x ∈ r, (Lit.int .i64 x.f1).wf = true) :
  ∀ (d k n : Nat) (acc : List S49) (G : List It), n + d = rows.length → acc = G.map Prod.fst → Grouped key col (rows.take n) G → (∀ g ∈ acc, OkG g) → acc.length ≤ n → 2 * d + 3000 < k →
  ∃ G', tithebarnref24_By.l0 k rows key col acc (n : Int) = some (if (rows.drop n).any (badB key col) then ([], 7) else (G'.map Prod.fst, 0)) ∧ ((rows.drop n).any (badB key col) = false → Grouped key col rows G' ∧ ∀ g ∈ G'.map Prod.fst, OkG g) := by
 intro d
 induction d with
 | zero =>
  intro k n acc G hn ha hG hok hal hk
  obtain ⟨k, rfl⟩ : ∃ m, k = m + 1 := ⟨k - 1, by omega⟩
  refine ⟨G, ?_, fun _ => ?_⟩
  ·rw [tithebarnref24_By.l0, if_neg (by omega), List.drop_eq_nil_of_le (by omega)]
   simp [ha]
  ·rw [List.take_of_length_le (by omega)] at hG
   rw [← ha]
   exact ⟨hG, hok⟩
 | succ d ih =>
  intro k n acc G hn ha hG hok hal hk
  have hlt : n < rows.length := by omega
  have hm := List.getElem_mem hlt
  obtain ⟨k, rfl⟩ : ∃ m, k = m + 2 := ⟨k - 2, by omega⟩
  rw [tithebarnref24_By.l0, if_pos (by omega), rdRowG_at rows n hlt, List.drop_eq_getElem_cons hlt, List.any_cons]
  by_cases c1 : key < 0
  ·have hb : badB key col rows[n] = true := by simp [badB, noneB, c1]
   rw [if_pos c1, tithebarnref24_By.j1, if_pos rfl, hb, Bool.true_or]
   exact ⟨[], rfl, fun h => by cases h⟩
  ·rw [if_neg c1, if_pos (by omega)]
   by_cases c2 : (rows[n].length : Int) ≤ key
   ·have hb : badB key col rows[n] = true := by simp [badB, noneB, c2]
    rw [tithebarnref24_By.j1, if_pos (by simpa using c2), hb, Bool.true_or]
    exact ⟨[], rfl, fun h => by cases h⟩
   ·have hd : decide (key ≥ (rows[n].length : Int)) = false := by simp; omega
    have hnk : noneB rows[n] key = false := by simp [noneB]; omega
    have hcut : (rows.take ((n + 1 : Nat) : Int).toNat).drop ((n : Nat) : Int).toNat = [rows[n]] := by
     rw [Int.toNat_natCast, Int.toNat_natCast, List.take_succ_eq_append_getElem hlt, List.drop_append_of_le_length (by rw [List.length_take]; omega), List.drop_eq_nil_of_le (by rw [List.length_take]; omega), List.nil_append]
    rw [hd, tithebarnref24_By.j1, if_neg (by decide), if_pos (by omega), wr_one n (by omega), if_pos (by omega), if_pos (by omega), hcut]
    obtain ⟨k', rfl⟩ : ∃ m, k = m + 6 := ⟨k - 6, by omega⟩
    rw [refFold.one rows[n] col k' (hz _ hm) (hr _ hm), Option.bind_some]
    cases hc : noneB rows[n] col with
    | true =>
     have hb : badB key col rows[n] = true := by simp [badB, hc]
     rw [hb, Bool.true_or]
     simp only [if_true, Sm.tup10]
     rw [if_neg (by decide)]
     exact ⟨[], rfl, fun h => by cases h⟩
    | false =>
     have hb : badB key col rows[n] = false := by simp [badB, hc, hnk]
     rw [hb, Bool.false_or]
     simp only [Bool.false_eq_true, if_false, Sm.tup10]
     rw [if_pos trivial, if_pos (by omega), if_pos (by omega), rdRowG_at rows n hlt, if_pos (by omega)]
     have hadd := add.is acc (mkG key col rows[n]) (by omega) hok (mkG_ok key col _ (hz _ hm)) (k' + 6 - (2 * acc.length + 7))
     rw [show k' + 6 - (2 * acc.length + 7) + 2 * acc.length + 7 = k' + 6 by omega] at hadd
     have hG2 := hG.add rows[n] (rdT_wf _ col (hw _ hm)) (by rw [List.length_take]; omega)
     rw [show rows.take n ++ [rows[n]] = rows.take (n + 1) from (List.take_succ_eq_append_getElem hlt).symm] at hG2
     obtain ⟨G', e1, e2⟩ := ih (k' + 6) (n + 1) (addV (mkG key col rows[n]) acc) (addI (mkG key col rows[n], [rows[n]]) G) (by omega) (by rw [addI_fst, ha]) hG2 (addV_ok _ (mkG_ok key col _ (hz _ hm)) _ hok) (by have := addV_len (mkG key col rows[n]) acc; omega) (by omega)
     refine ⟨G', ?_, e2⟩
     rw [← e1]
     show ((tithebarnref24_add.f (k' + 6) acc (mkG key col rows[n]).f0.f0 (mkG key col rows[n]).f0.f1 (mkG key col rows[n]).f0.f2 (mkG key col rows[n]).f1.f0 (mkG key col rows[n]).f1.f1 (mkG key col rows[n]).f1.f2 (mkG key col rows[n]).f1.f3.f0 (mkG key col rows[n]).f1.f3.f1 (mkG key col rows[n]).f1.f3.f2 (mkG key col rows[n]).f1.f4.f0 (mkG key col rows[n]).f1.f4.f1 (mkG key col rows[n]).f1.f4.f2).bind fun t => tithebarnref24_By.l0 (k' + 6) rows key col t ((n + 1 : Nat) : Int)) = _
     rw [hadd, Option.bind_some]
theorem Same_gb.loop (l : List S49) (hl : l.length ≤ 1000000000) : ∀ (d k n : Nat), n + d = l.length → tithebarnref24_Same.l0 (k + d + 1) l l (n : Int) = some true := by
 intro d
 induction d with
 | zero =>
  intro k n hn
  rw [tithebarnref24_Same.l0, if_neg (by omega)]
 | succ d ih =>
  intro k n hn
  rw [show k + (d + 1) + 1 = (k + d + 1) + 1 by omega, tithebarnref24_Same.l0, if_pos (by omega), if_pos (by omega), if_pos (by omega), if_neg (by simp), wr_one n (by omega)]
  exact ih k (n + 1) (by omega)
theorem Same_gb.self (l : List S49) (hl : l.length ≤ 1000000000) (k : Nat) : tithebarnref24_Same.f (k + l.length + 1) l l = some true := by
 unfold tithebarnref24_Same.f
 rw [if_pos rfl]
 exact Same_gb.loop l hl l.length k 0 (by omega)
def totV (s : Sm) (l : List S49) : Sm := l.foldl (fun s g => joinV s (toSm g.f1)) s
theorem Total_gb.loop (l : List S49) (hl : l.length ≤ 1000000000) : ∀ (d k n : Nat) (s : Sm), n + d = l.length →
  groups_Total.l0 (k + d + 1) l (l.length : Int) (n : Int) s.c s.s s.v s.lo.f0 s.lo.f1 s.lo.f2 s.hi.f0 s.hi.f1 s.hi.f2 = some (totV s (l.drop n)).tup := by
 intro d
 induction d with
 | zero =>
  intro k n s hn
  rw [groups_Total.l0, if_neg (by omega), List.drop_eq_nil_of_le (by omega)]
  rfl
 | succ d ih =>
  intro k n s hn
  have hlt : n < l.length := by omega
  rw [show k + (d + 1) + 1 = (k + d + 1) + 1 by omega, groups_Total.l0, if_pos (by omega), if_pos (by omega), if_pos (by omega), rdG_at l n hlt, List.drop_eq_getElem_cons hlt, wr_one n (by omega)]
  rw [show sums_Join_c.f s.c s.s s.v s.lo.f0 s.lo.f1 s.lo.f2 s.hi.f0 s.hi.f1 s.hi.f2 l[n].f1.f0 l[n].f1.f1 l[n].f1.f2 l[n].f1.f3.f0 l[n].f1.f3.f1 l[n].f1.f3.f2 l[n].f1.f4.f0 l[n].f1.f4.f1 l[n].f1.f4.f2 = some (joinV s (toSm l[n].f1)).tup from rfl]
  show groups_Total.l0 (k + d + 1) l (l.length : Int) ((n + 1 : Nat) : Int) (joinV s (toSm l[n].f1)).c _ _ _ _ _ _ _ _ = some (totV (joinV s (toSm l[n].f1)) (l.drop (n + 1))).tup
  exact ih k (n + 1) (joinV s (toSm l[n].f1)) (by omega)
theorem groups_Total.is_gb (l : List S49) (hl : l.length ≤ 1000000000) (k : Nat) : groups_Total.f (k + l.length + 1) l = some (totV zeroS l).tup := by
 have := Total_gb.loop l hl l.length k 0 zeroS (by omega)
 rw [List.drop_zero] at this
 exact this
theorem lives24_gb (K : Nat) (hK : 20 ≤ K) : tithebarnlaw24_lives.f K = some true := by
 have h : ∀ d, tithebarnlaw24_lives.f (20 + d) = some true := by
  intro d
  induction d with
  | zero => exact lives24
  | succ d ih => exact tithebarnlaw24_lives.mono (20 + d) true ih
 have := h (K - 20)
 rwa [show 20 + (K - 20) = K by omega] at this
theorem lives24c_gb (K : Nat) (hK : 20 ≤ K) : tithebarnlaw24_lives_c.f K = some true := tithebarnlaw24_lives_c.is (lives24_gb K hK)
theorem early24.is_gb (l : List RowV) : tithebarnlaw24_early.f l = some (l.take (mn (l.length : Int) 150).toNat) := by
 unfold tithebarnlaw24_early.f
 rw [if_pos (by unfold mn; split <;> omega), if_pos (by unfold mn; split <;> omega)]
theorem refBy.is (key col : Int) (rows : List RowV) (hl : rows.length ≤ 1000) (hr : ∀ r ∈ rows, r.length ≤ 9223372036854775807) (hz : ∀ r ∈ rows, ∀ x ∈ r, SZ x.f2) (hw : ∀ r ∈ rows, ∀ x ∈ r, (Lit.int .i64 x.f1).wf = true) (K : Nat) (hK : 10000 ≤ K) :
  ∃ G', tithebarnref24_By.f K rows key col = some (if rows.any (badB key col) then ([], 7) else (G'.map Prod.fst, 0)) ∧ (rows.any (badB key col) = false → Grouped key col rows G' ∧ ∀ g ∈ G'.map Prod.fst, OkG g) := by
 have h0 : Grouped key col (rows.take 0) [] := ⟨(fun p h => by cases h), List.Pairwise.nil, (by simp), (fun k => by simp)⟩
 obtain ⟨G', e1, e2⟩ := refBy.loop key col rows hl hr hz hw rows.length K 0 [] [] (by omega) rfl h0 (fun g h => by cases h) (Nat.le_refl _) (by omega)
 rw [List.drop_zero] at e1 e2
 exact ⟨G', e1, e2⟩
theorem refTotal.loop (l : List S49) (hl : l.length ≤ 1000000) (hok : ∀ g ∈ l, OkG g) : ∀ (d k n : Nat) (s : Sm), n + d = l.length → SZ s.lo.f2 → SZ s.hi.f2 →
  tithebarnref24_Total.l0 (k + d + 5) l (n : Int) s.c s.s s.v s.lo.f0 s.lo.f1 s.lo.f2 s.hi.f0 s.hi.f1 s.hi.f2 = some (totV s (l.drop n)).tup := by
 intro d
 induction d with
 | zero =>
  intro k n s hn h1 h2
  rw [tithebarnref24_Total.l0, if_neg (by omega), List.drop_eq_nil_of_le (by omega)]
  rfl
 | succ d ih =>
  intro k n s hn h1 h2
  have hlt : n < l.length := by omega
  have hg := hok _ (List.getElem_mem hlt)
  rw [show k + (d + 1) + 5 = (k + d + 5) + 1 by omega, tithebarnref24_Total.l0, if_pos (by omega), if_pos (by omega), rdG_at l n hlt, List.drop_eq_getElem_cons hlt, wr_one n (by omega)]
  have hj := refJoin.is s (toSm l[n].f1) (k + d + 1) h1 h2 hg.lo hg.hi
  rw [show k + d + 1 + 4 = k + d + 5 by omega] at hj
  rw [show tithebarnref18_Join.f (k + d + 5) s.c s.s s.v s.lo.f0 s.lo.f1 s.lo.f2 s.hi.f0 s.hi.f1 s.hi.f2 l[n].f1.f0 l[n].f1.f1 l[n].f1.f2 l[n].f1.f3.f0 l[n].f1.f3.f1 l[n].f1.f3.f2 l[n].f1.f4.f0 l[n].f1.f4.f1 l[n].f1.f4.f2 = some (joinV s (toSm l[n].f1)).tup from hj]
  show tithebarnref24_Total.l0 (k + d + 5) l ((n + 1 : Nat) : Int) (joinV s (toSm l[n].f1)).c _ _ _ _ _ _ _ _ = some (totV (joinV s (toSm l[n].f1)) (l.drop (n + 1))).tup
  have ho : OkG ⟨z37, ofSm s⟩ := ⟨Nat.zero_le _, h1, h2⟩
  have ho2 := ho.join hg
  exact ih k (n + 1) (joinV s (toSm l[n].f1)) (by omega) ho2.lo ho2.hi
theorem refTotal.is (l : List S49) (hl : l.length ≤ 1000000) (hok : ∀ g ∈ l, OkG g) (k : Nat) : tithebarnref24_Total.f (k + l.length + 5) l = some (totV zeroS l).tup := by
 have := refTotal.loop l hl hok l.length k 0 zeroS (by omega) (Nat.zero_le _) (Nat.zero_le _)
 rw [List.drop_zero] at this
 exact this
theorem GroupsBy_true (K : Nat) (hK : 1000000 ≤ K) (l : List RowV) (key col : Int) (hl : ∀ r ∈ l, r.length ≤ 9223372036854775807) (hw : ∀ r ∈ l, ∀ x ∈ r, (Lit.int .i64 x.f1).wf = true) (hz : ∀ r ∈ l, ∀ x ∈ r, SZ x.f2) : tithebarnlaw24_GroupsBy.f K l key col = some true := by
 simp only [tithebarnlaw24_GroupsBy.f, lives24c_gb K (by omega), Option.bind_some, if_true, early24.is_gb]
 have hs : ∀ r ∈ l.take (mn (l.length : Int) 150).toNat, r ∈ l := fun r h => List.mem_of_mem_take h
 have hR : (l.take (mn (l.length : Int) 150).toNat).length ≤ 150 := by rw [List.length_take]; unfold mn; split <;> omega
 generalize l.take (mn (l.length : Int) 150).toNat = a at hs hR ⊢
 have hla : ∀ r ∈ a, r.length ≤ 9223372036854775807 := fun r h => hl r (hs r h)
 have hby := groups_By.is key col a (by omega) hla (K - (a.length + 1 + a.length + 1))
 rw [show K - (a.length + 1 + a.length + 1) + a.length + 1 + a.length + 1 = K by omega] at hby
 obtain ⟨GB, hb, hbg⟩ := refBy.is key col a (by omega) hla (fun r h => hz r (hs r h)) (fun r h => hw r (hs r h)) K (by omega)
 rw [hby, hb]
 simp only [Option.bind_some]
 cases bad : a.any (badB key col) with
 | true =>
  simp only [if_true]
  have h1 := Same_gb.self [] (by simp) (K - 1)
  have h2 := groups_Total.is_gb [] (by simp) (K - 1)
  have h3 := refTotal.is [] (by simp) (fun g h => by cases h) (K - 5)
  rw [show K - 1 + ([] : List S49).length + 1 = K by simp; omega] at h1 h2
  rw [show K - 5 + ([] : List S49).length + 5 = K by simp; omega] at h3
  rw [h1, h2, h3]
  simp [Sm.tup]
 | false =>
  simp only [Bool.false_eq_true, if_false]
  obtain ⟨GA, ea, ga⟩ := byV_groups key col a (by omega) (fun r hr => rdT_wf r col (hw r (hs r hr)))
  obtain ⟨gb, hok⟩ := hbg bad
  have he : GA = GB := Grouped.only ga gb
  subst he
  have hlen : (GA.map Prod.fst).length ≤ 150 := by
   rw [List.length_map]
   have hb : ∀ G : List It, (∀ p ∈ G, Item key col p) → G.length ≤ (G.flatMap Prod.snd).length := by
    intro G
    induction G with
    | nil => intro _; simp
    | cons p G ih =>
     intro h
     obtain ⟨r, t, h1, _⟩ := (h p List.mem_cons_self).hd
     have := ih (fun q hq => h q (List.mem_cons_of_mem _ hq))
     rw [List.flatMap_cons, List.length_append, h1, List.length_cons, List.length_cons]
     omega
   have := hb GA ga.items
   rw [← ga.perm.length_eq] at this
   omega
  rw [ea]
  generalize GA.map Prod.fst = g at hok hlen
  have h1 := Same_gb.self g (by omega) (K - (g.length + 1))
  have h2 := groups_Total.is_gb g (by omega) (K - (g.length + 1))
  have h3 := refTotal.is g (by omega) hok (K - (g.length + 5))
  rw [show K - (g.length + 1) + g.length + 1 = K by omega] at h1 h2
  rw [show K - (g.length + 5) + g.length + 5 = K by omega] at h3
  rw [h1, h2, h3]
  simp [Sm.tup]
theorem GroupsBy_walk (W : World) (A0 : Option Addr) (c0 : Nat) (l0 : List (List (S37))) (hc0 : l0.length ≤ c0) (hr0 : Kd.C (Kd.slice 37 k37) W A0 l0.length l0) (b0 : BL (BL B37) l0 maxLen) (a1 : Int) (b1 : (Lit.int .i64 a1).wf = true) (a2 : Int) (b2 : (Lit.int .i64 a2).wf = true) :
  Calls Try.prog 10 #[.slice A0 l0.length c0, .int .i64 a1, .int .i64 a2] W fun e W' => e = .returned (.bool true) ∧ Below W.heap.size W W' := by
 obtain ⟨g0, g1⟩ := b0
 exact tithebarnlaw24_GroupsBy.calls 1000000 A0 c0 l0 a1 a2 true W hr0 hc0 (GroupsBy_true 1000000 (Nat.le_refl _) l0 a1 a2 (fun r hr => (g1 r hr).1) (fun r hr x hx => (B37_open ((g1 r hr).2 x hx)).2.1) (fun r hr x hx => (B37_open ((g1 r hr).2 x hx)).2.2))

end Go.Proofs.Ythlelhndmnkmjaa.Pr
