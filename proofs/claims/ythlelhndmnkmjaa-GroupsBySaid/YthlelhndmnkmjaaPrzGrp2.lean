/- Groups: gather and By, as plain functions. -/
import Derived.Test.YthlelhndmnkmjaaRdk
import Derived.Test.YthlelhndmnkmjaaPr0
import Derived.Test.YthlelhndmnkmjaaPrf26
import Derived.Test.YthlelhndmnkmjaaPrf32
import Derived.Test.YthlelhndmnkmjaaPrf41
import Derived.Test.YthlelhndmnkmjaaPrf56
import Derived.Test.YthlelhndmnkmjaaPrf57
import Derived.Test.YthlelhndmnkmjaaPrf60
import Derived.Test.YthlelhndmnkmjaaPrz25
import Derived.Test.YthlelhndmnkmjaaPrzGrp
import Derived.Test.YthlelhndmnkmjaaThy
namespace Go.Proofs.Ythlelhndmnkmjaa.Pr
open Go.RowKit Go.Proofs.Ythlelhndmnkmjaa.Brid Go.Proofs.YthlelhndmnkmjaaW.PrintWords Go.Proofs.YthlelhndmnkmjaaW.PrintLast Go.Proofs.YthlelhndmnkmjaaW.PrintMore
set_option linter.unusedVariables false
set_option linter.unusedSimpArgs false
def toSm (x : S47) : Sm := ⟨x.f0, x.f1, x.f2, x.f3, x.f4⟩
def ofSm (x : Sm) : S47 := ⟨x.c, x.s, x.v, x.lo, x.hi⟩
theorem toSm_ofSm (x : Sm) : toSm (ofSm x) = x := rfl
/-- the open group, and what follows -/
def gat (o : S49) : List S49 → List S49
 | [] => [o]
 | g :: l => if cfKey o g = 0 then gat ⟨o.f0, ofSm (joinV (toSm o.f1) (toSm g.f1))⟩ l else o :: gat g l
def gatherV : List S49 → List S49
 | [] => []
 | g :: l => gat g l
theorem rdG_last (pre : List S49) (o : S49) : rd_T49 (pre ++ [o]) (pre.length : Int) = o := by
 simp [rd_T49, List.getD_eq_getElem?_getD]
theorem wr_last (pre : List S49) (o : S49) (h : pre.length ≤ 1000000000000000000) : wrap64 (((pre ++ [o]).length : Int) - 1) = (pre.length : Int) := by
 have hlen : (pre ++ [o]).length = pre.length + 1 := by simp
 rw [hlen, wr_small _ (by omega) (by omega)]; omega
theorem gather.loop (l : List S49) (hl : l.length ≤ 1000000000) : ∀ (d k n : Nat) (pre : List S49) (o : S49), n + d = l.length → pre.length < n →
  groups_gather.l0 (k + d + 1) (pre ++ [o]) l (l.length : Int) (n : Int) = some (pre ++ gat o (l.drop n)) := by
 intro d
 induction d with
 | zero =>
  intro k n pre o hn hp
  rw [groups_gather.l0, if_neg (by omega), List.drop_eq_nil_of_le (by omega)]
  rfl
 | succ d ih =>
  intro k n pre o hn hp
  have hlt : n < l.length := by omega
  have hlen : (pre ++ [o]).length = pre.length + 1 := by simp
  rw [show k + (d + 1) + 1 = (k + d + 1) + 1 by omega, groups_gather.l0]
  rw [if_pos (by omega), if_pos (by omega), if_pos (by omega), wr_last pre o (by omega), if_pos (by omega), if_pos (by omega), if_pos (by rw [hlen]; omega), rdG_last, rdG_at l n hlt]
  simp only [groups_byKey.f, kinds_Compare_c.f, Option.bind_some]
  rw [List.drop_eq_getElem_cons hlt, gat]
  by_cases c : cfKey o l[n] = 0
  ·rw [if_pos (show Thy.cmpV o.f0.f0 o.f0.f1 o.f0.f2 l[n].f0.f0 l[n].f0.f1 l[n].f0.f2 = 0 from c), if_pos c]
   rw [show sums_Join_c.f o.f1.f0 o.f1.f1 o.f1.f2 o.f1.f3.f0 o.f1.f3.f1 o.f1.f3.f2 o.f1.f4.f0 o.f1.f4.f1 o.f1.f4.f2 l[n].f1.f0 l[n].f1.f1 l[n].f1.f2 l[n].f1.f3.f0 l[n].f1.f3.f1 l[n].f1.f3.f2 l[n].f1.f4.f0 l[n].f1.f4.f1 l[n].f1.f4.f2 = some (joinV (toSm o.f1) (toSm l[n].f1)).tup from rfl]
   generalize joinV (toSm o.f1) (toSm l[n].f1) = J
   rw [Option.bind_some]
   show groups_gather.l0 (k + d + 1) ((pre ++ [o]).set (pre.length : Int).toNat ⟨o.f0, ofSm J⟩) l (l.length : Int) (wrap64 ((n : Int) + 1)) = _
   rw [Int.toNat_natCast, List.set_append_right _ _ (Nat.le_refl _), Nat.sub_self, List.set_cons_zero, wr_one n (by omega)]
   exact ih k (n + 1) pre _ (by omega) (by omega)
  ·rw [if_neg (show ¬ Thy.cmpV o.f0.f0 o.f0.f1 o.f0.f2 l[n].f0.f0 l[n].f0.f1 l[n].f0.f2 = 0 from c), if_neg c, if_pos (by rw [hlen]; omega), wr_one n (by omega)]
   have := ih k (n + 1) (pre ++ [o]) l[n] (by omega) (by rw [hlen]; omega)
   rw [show pre ++ o :: gat l[n] (List.drop (n + 1) l) = (pre ++ [o]) ++ gat l[n] (List.drop (n + 1) l) by simp]
   exact this
theorem groups_gather.is (l : List S49) (hl : l.length ≤ 1000000000) (k : Nat) : groups_gather.f (k + l.length + 1) l = some (gatherV l) := by
 unfold groups_gather.f
 cases l with
 | nil => rw [List.length_nil, Nat.add_zero, groups_gather.l0]; rfl
 | cons g r =>
  rw [groups_gather.l0, if_pos (by simp), if_pos (by omega), if_pos (by simp), show wrap64 ((([] : List S49).length : Int) - 1) = -1 from wr_small _ (by simp) (by simp), if_neg (by omega), if_pos (by simp)]
  have := gather.loop (g :: r) hl r.length k 1 [] g (by simp; omega) (by simp)
  rw [show k + r.length + 1 = k + (g :: r).length by simp; omega] at this
  rw [show (0 : Int) = ((0 : Nat) : Int) from rfl, rdG_at (g :: r) 0 (by simp), wr_one 0 (by omega)]
  exact this
/-- a row as a group of its own -/
def mkG (key col : Int) (r : List S37) : S49 := ⟨rd_T37 r key, ofSm (joinV zeroS (oneV (rd_T37 r col)))⟩
def badB (key col : Int) (r : List S37) : Bool := noneB r col || noneB r key
theorem rdRowG_at (l : List (List S37)) (n : Nat) (h : n < l.length) : rd_L7 l (n : Int) = l[n] := by
 simp [rd_L7, List.getD_eq_getElem?_getD, List.getElem?_eq_getElem h]
theorem By.loop (key col : Int) (rows : List (List S37)) (hl : rows.length ≤ 1000000000) (hr : ∀ r ∈ rows, r.length ≤ 9223372036854775807) : ∀ (d k n : Nat) (acc : List S49), n + d = rows.length → acc.length = n →
  groups_By.l0 (k + d + 1) key col acc rows (rows.length : Int) (n : Int) = (if (rows.drop n).any (badB key col) then some ([], 7) else (sortKey.f (acc ++ (rows.drop n).map (mkG key col))).bind fun t => (groups_gather.f k t).bind fun u => some (u, 0)) := by
 intro d
 induction d with
 | zero =>
  intro k n acc hn ha
  rw [groups_By.l0, if_neg (by omega), List.drop_eq_nil_of_le (by omega)]
  simp
 | succ d ih =>
  intro k n acc hn ha
  have hlt : n < rows.length := by omega
  rw [show k + (d + 1) + 1 = (k + d + 1) + 1 by omega, groups_By.l0]
  rw [if_pos (by omega), if_pos (by omega), if_pos (by omega), rdRowG_at rows n hlt]
  rw [List.drop_eq_getElem_cons hlt]
  simp only [sums_Fold_c.f, List.any_cons, List.any_nil, Bool.or_false, Option.bind_some, List.map_cons]
  cases hb : noneB rows[n] col with
  | true =>
   simp only [if_true, Sm.tup10, badB, hb, Bool.true_or]
   rw [if_neg (by omega)]
  | false =>
   simp only [Bool.false_eq_true, if_false, Sm.tup10, badB, hb, Bool.false_or]
   rw [if_pos trivial]
   by_cases c1 : key < 0
   ·rw [if_pos c1, if_pos (by simp [noneB, c1])]
   ·rw [if_neg c1]
    by_cases c2 : key ≥ (rows[n].length : Int)
    ·rw [if_pos c2, if_pos (by simp [noneB]; omega)]
    ·have hnb : noneB rows[n] key = false := by simp [noneB]; omega
     rw [if_neg c2, if_pos (by omega), if_pos (by omega), if_pos (by omega), hnb, Bool.false_or, wr_one n (by omega)]
     have := ih k (n + 1) (acc ++ [mkG key col rows[n]]) (by omega) (by simp [ha])
     rw [List.append_assoc, List.singleton_append] at this
     exact this
theorem sortKey_len (l : List S49) : (Stab.ssort (ltOf cfKey) l).length = l.length := (Stab.ssort_perm l).length_eq
def byV (key col : Int) (rows : List (List S37)) : List S49 := gatherV (Stab.ssort (ltOf cfKey) (rows.map (mkG key col)))
theorem groups_By.is (key col : Int) (rows : List (List S37)) (hl : rows.length ≤ 1000000000) (hr : ∀ r ∈ rows, r.length ≤ 9223372036854775807) (k : Nat) :
  groups_By.f (k + rows.length + 1 + rows.length + 1) rows key col = some (if rows.any (badB key col) then ([], 7) else (byV key col rows, 0)) := by
 unfold groups_By.f
 have := By.loop key col rows hl hr rows.length (k + rows.length + 1) 0 [] (by omega) rfl
 rw [show ((0 : Nat) : Int) = 0 from rfl, List.drop_zero, List.nil_append] at this
 rw [this]
 split
 ·rfl
 ·simp only [sortKey.f]
  rw [if_pos (by rw [List.length_map]; omega)]
  simp only [Option.bind_some]
  have hg := groups_gather.is (Stab.ssort (ltOf cfKey) (rows.map (mkG key col))) (by rw [sortKey_len, List.length_map]; exact hl) k
  rw [sortKey_len, List.length_map] at hg
  rw [hg]
  rfl

end Go.Proofs.Ythlelhndmnkmjaa.Pr
