/- Groups: what the printed texts compute, in plain words; the law's own three rows. -/
import Derived.Test.YthlelhndmnkmjaaRdk
import Derived.Test.YthlelhndmnkmjaaPr0
import Derived.Test.YthlelhndmnkmjaaPrf24
import Derived.Test.YthlelhndmnkmjaaPrf25
import Derived.Test.YthlelhndmnkmjaaPrf26
import Derived.Test.YthlelhndmnkmjaaPrf32
import Derived.Test.YthlelhndmnkmjaaPrf41
import Derived.Test.YthlelhndmnkmjaaPrf51
import Derived.Test.YthlelhndmnkmjaaPrf52
import Derived.Test.YthlelhndmnkmjaaPrf55
import Derived.Test.YthlelhndmnkmjaaPrf56
import Derived.Test.YthlelhndmnkmjaaPrf57
import Derived.Test.YthlelhndmnkmjaaPrf60
import Derived.Test.YthlelhndmnkmjaaPrz25
import Derived.Test.YthlelhndmnkmjaaThy
namespace Go.Proofs.Ythlelhndmnkmjaa.Pr
open Go.RowKit Go.Proofs.Ythlelhndmnkmjaa.Brid Go.Proofs.YthlelhndmnkmjaaW.PrintWords Go.Proofs.YthlelhndmnkmjaaW.PrintLast Go.Proofs.YthlelhndmnkmjaaW.PrintMore
set_option linter.unusedVariables false
set_option linter.unusedSimpArgs false
theorem rdG_at (l : List S49) (n : Nat) (h : n < l.length) : rd_T49 l (n : Int) = l[n] := by
 simp [rd_T49, List.getD_eq_getElem?_getD, List.getElem?_eq_getElem h]
theorem lv_cmp (a b : Int) (s : ByteArray) (h : a < b) : Thy.cmpV false a s false b s = -1 := by
 have h2 : ¬ a = b := by omega
 simp [Thy.cmpV, Thy.less, h, h2]
theorem lv_cmp2 (a b : Int) (s : ByteArray) (h : b < a) : Thy.cmpV false a s false b s = 1 := by
 have h1 : ¬ a < b := by omega
 have h2 : ¬ a = b := by omega
 have h3 : ¬ b = a := by omega
 simp [Thy.cmpV, Thy.less, h, h1, h2, h3]
theorem lv_cmp0 (a : Int) (s : ByteArray) : Thy.cmpV false a s false a s = 0 := by simp [Thy.cmpV, Thy.less, Thy.bl_irrefl]
theorem lv_less (a b : Int) (s : ByteArray) (h : a < b) : Thy.less false a s false b s = true := by
 have h2 : ¬ a = b := by omega
 simp [Thy.less, h, h2]
theorem lv_less2 (a b : Int) (s : ByteArray) (h : b ≤ a) : Thy.less false a s false b s = false := by
 have h1 : ¬ a < b := by omega
 simp [Thy.less, h1]
 intro h; subst h; exact Thy.bl_irrefl _
def lvG (n s : Int) : S49 := ⟨⟨false, n, ⟨#[]⟩⟩, ⟨1, s, 1, ⟨false, s, ⟨#[]⟩⟩, ⟨false, s, ⟨#[]⟩⟩⟩⟩
def lvR (n s : Int) : List S37 := [⟨false, n, ⟨#[]⟩⟩, ⟨false, s, ⟨#[]⟩⟩]
theorem wr_small (x : Int) (h1 : -9223372036854775808 ≤ x) (h2 : x < 9223372036854775808) : wrap64 x = x := by unfold wrap64; omega
theorem wr_one (n : Nat) (h : n ≤ 1000000000000000000) : wrap64 ((n : Int) + 1) = ((n + 1 : Nat) : Int) := by rw [wr_small _ (by omega) (by omega)]; omega
theorem lv_fold (n s : Int) (h1 : -100 < s) (h2 : s < 100) : sums_Fold_c.f [lvR n s] 1 = some (1, s, 1, false, s, ⟨#[]⟩, false, s, ⟨#[]⟩, 0) := by
 have w1 : wrap64 s = s := wr_small s (by omega) (by omega)
 have w0 : wrap64 1 = 1 := wr_small 1 (by omega) (by omega)
 simp [sums_Fold_c.f, foldV, joinV, oneV, rd_T37, noneB, Sm.tup10, zeroS, lvR, w0, w1]
theorem lv_sort : Stab.ssort (ltOf cfKey) [lvG 1 5, lvG 2 7, lvG 1 6] = [lvG 1 5, lvG 1 6, lvG 2 7] := by
 simp [Stab.ssort, Stab.mrg, Stab.ins, cfKey_lt, lvG, lv_less, lv_less2]
set_option maxRecDepth 100000 in
theorem lv_gather : groups_gather.f 16 [lvG 1 5, lvG 1 6, lvG 2 7] = some [⟨⟨false, 1, ⟨#[]⟩⟩, ⟨2, 11, 2, ⟨false, 5, ⟨#[]⟩⟩, ⟨false, 6, ⟨#[]⟩⟩⟩⟩, lvG 2 7] := by
 have w (x : Int) (h1 : -9223372036854775808 ≤ x) (h2 : x < 9223372036854775808) := wr_small x h1 h2
 simp [groups_gather.f, groups_gather.l0, rd_T49, lvG, groups_byKey.f, kinds_Compare_c.f, lv_cmp, lv_cmp0, sums_Join_c.f, joinV, Sm.tup, lessV, lv_less, lv_less2, wr_small]
set_option maxRecDepth 100000 in
theorem lv_by : groups_By.f 20 [lvR 1 5, lvR 2 7, lvR 1 6] 0 1 = some ([⟨⟨false, 1, ⟨#[]⟩⟩, ⟨2, 11, 2, ⟨false, 5, ⟨#[]⟩⟩, ⟨false, 6, ⟨#[]⟩⟩⟩⟩, lvG 2 7], 0) := by
 simp [groups_By.f, groups_By.l0, rd_L7, lv_fold, rd_T37, wr_small]
 simp [lvR]
 show ((sortKey.f [lvG 1 5, lvG 2 7, lvG 1 6]).bind fun t => (groups_gather.f 16 t).bind fun u => some (u, 0)) = _
 simp [sortKey.f, lv_sort, lv_gather]
theorem ssortG_len (lt : S49 → S49 → Bool) (l : List S49) : (Stab.ssort lt l).length = l.length := (Stab.ssort_perm l).length_eq
/-- the greatest -/
def topV (l : List S49) (n : Int) : List S49 := (Stab.ssort (ltOf cfTop) l).take (mn (mx n 0) (l.length : Int)).toNat
theorem groups_Top.is (l : List S49) (n : Int) (h : l.length ≤ 1172812402961) : groups_Top.f l n = some (topV l n) := by
 have h2 : l.length < 1152921504606846976 := by omega
 simp only [groups_Top.f, cloneG.f, if_pos h, Option.bind_some, sortTop.f, if_pos h2, api_Group_55.f, ssortG_len]
 rw [if_pos (by unfold mn mx; split <;> split <;> omega), if_pos (by unfold mn mx; split <;> split <;> omega)]
 rfl
theorem lives24 : tithebarnlaw24_lives.f 20 = some true := by
 have hb := lv_by
 simp only [lvR] at hb
 simp only [tithebarnlaw24_lives.f, hb, Option.bind_some]
 rw [groups_Top.is _ _ (by simp)]
 simp [rd_T49, lvG, topV, mn, mx, ssortG_len]

end Go.Proofs.Ythlelhndmnkmjaa.Pr
