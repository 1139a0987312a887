/- The law Sums: its walk, out of the contracts of what it calls. -/
import Derived.Test.YthlelhndmnkmjaaRdk
import Derived.Test.YthlelhndmnkmjaaPr0
import Derived.Test.YthlelhndmnkmjaaPrf32
import Derived.Test.YthlelhndmnkmjaaPrf60
import Derived.Test.YthlelhndmnkmjaaThy
namespace Go.Proofs.Ythlelhndmnkmjaa.Pr
open Go.RowKit Go.Proofs.Ythlelhndmnkmjaa.Brid Go.Proofs.YthlelhndmnkmjaaW.PrintWords Go.Proofs.YthlelhndmnkmjaaW.PrintLast Go.Proofs.YthlelhndmnkmjaaW.PrintMore
set_option linter.unusedVariables false
set_option linter.unusedSimpArgs false
def nnV (vs : List S37) : List S37 := vs.filter (fun v => !v.f0)
def sumV : List S37 → Int
 | [] => 0
 | v :: r => v.f1 + sumV r
theorem sumV_append (a b : List S37) : sumV (a ++ b) = sumV a + sumV b := by
 induction a with
 | nil => simp [sumV]
 | cons v r ih => simp only [List.cons_append, sumV, ih]; omega
theorem sumV_perm {a b : List S37} (h : a.Perm b) : sumV a = sumV b := by
 induction h with
 | nil => rfl
 | cons x _ ih => simp only [sumV, ih]
 | swap x y l => simp only [sumV]; omega
 | trans _ _ i j => exact i.trans j
theorem nnV_append (a b : List S37) : nnV (a ++ b) = nnV a ++ nnV b := List.filter_append ..
theorem wrap_cong {a b : Int} (h : ∃ k, a = b + 18446744073709551616 * k) : wrap64 a = wrap64 b := by
 obtain ⟨k, h⟩ := h
 unfold wrap64
 omega
theorem wrap_add (a b : Int) : wrap64 (wrap64 a + wrap64 b) = wrap64 (a + b) := by unfold wrap64; omega
theorem wrap_id {n : Int} (h0 : -9223372036854775808 ≤ n) (h1 : n < 9223372036854775808) : wrap64 n = n := by unfold wrap64; omega
theorem wf_open {n : Int} (h : (Lit.int .i64 n).wf = true) : -9223372036854775808 ≤ n ∧ n ≤ 9223372036854775807 := by
 simpa [Lit.wf, IntKind.min, IntKind.max, IntKind.signed, IntKind.bits] using h
/-- what a sum says of values -/
structure Says (s : Sm) (vs : List S37) : Prop where
 c : s.c = vs.length
 v : s.v = (nnV vs).length
 sm : s.s = wrap64 (sumV (nnV vs))
 no : nnV vs = [] → s.lo = z37 ∧ s.hi = z37
 lo : nnV vs ≠ [] → s.lo ∈ nnV vs ∧ ∀ v ∈ nnV vs, lessV v s.lo = false
 hi : nnV vs ≠ [] → s.hi ∈ nnV vs ∧ ∀ v ∈ nnV vs, lessV s.hi v = false
theorem Says.zero : Says zeroS [] := ⟨rfl, rfl, by simp [zeroS, nnV, sumV, wrap64], fun _ => ⟨rfl, rfl⟩, fun h => absurd rfl h, fun h => absurd rfl h⟩
theorem lessV_irrefl (a : S37) : lessV a a = false := Thy.less_irrefl ..
theorem Says.one (v : S37) (hw : (Lit.int .i64 v.f1).wf = true) : Says (oneV v) [v] := by
 unfold oneV
 by_cases h : v.f0 = true
 ·rw [if_pos h]
  have hn : nnV [v] = [] := by simp [nnV, h]
  refine ⟨rfl, ?_, ?_, ?_, ?_, ?_⟩ <;> rw [hn]
  ·rfl
  ·simp [sumV, wrap64]
  ·exact fun _ => ⟨rfl, rfl⟩
  ·exact fun h => absurd rfl h
  ·exact fun h => absurd rfl h
 ·rw [if_neg h]
  have hn : nnV [v] = [v] := by simp [nnV, h]
  have hb := hw
  refine ⟨rfl, ?_, ?_, ?_, ?_, ?_⟩ <;> rw [hn]
  ·rfl
  ·simp only [sumV]
   have h2 := wf_open hw
   rw [Int.add_zero, wrap_id h2.1 (by omega)]
  ·exact fun h => absurd h (by simp)
  ·exact fun _ => ⟨List.mem_singleton.2 rfl, fun u hu => by rw [List.mem_singleton.1 hu]; exact lessV_irrefl v⟩
  ·exact fun _ => ⟨List.mem_singleton.2 rfl, fun u hu => by rw [List.mem_singleton.1 hu]; exact lessV_irrefl v⟩
theorem lessV_nt {a b c : S37} (h1 : lessV a b = false) (h2 : lessV b c = false) : lessV a c = false := Thy.notless_trans h1 h2
theorem lessV_asymm {a b : S37} (h : lessV a b = true) : lessV b a = false := Thy.less_asymm h
theorem Says.join {a b : Sm} {x y : List S37} (ha : Says a x) (hb : Says b y) (hl : x.length + y.length < 9223372036854775808) : Says (joinV a b) (x ++ y) := by
 have hx : (nnV x).length ≤ x.length := List.length_filter_le ..
 have hy : (nnV y).length ≤ y.length := List.length_filter_le ..
 refine ⟨?_, ?_, ?_, ?_, ?_, ?_⟩
 ·simp only [joinV, ha.c, hb.c, List.length_append]; rw [wrap_id (by omega) (by omega)]; omega
 ·simp only [joinV, ha.v, hb.v, nnV_append, List.length_append]; rw [wrap_id (by omega) (by omega)]; omega
 ·simp only [joinV, ha.sm, hb.sm, nnV_append, sumV_append]; exact wrap_add ..
 ·rw [nnV_append]
  intro h
  obtain ⟨h1, h2⟩ := List.append_eq_nil_iff.1 h
  have e1 : a.v ≤ 0 := by rw [ha.v, h1]; decide
  have e2 : b.v ≤ 0 := by rw [hb.v, h2]; decide
  simp only [joinV, if_pos e1, if_pos e2, and_self]
 ·rw [nnV_append]
  intro _
  simp only [joinV]
  by_cases h1 : nnV x = []
  ·have e1 : a.v ≤ 0 := by rw [ha.v, h1]; decide
   by_cases h2 : nnV y = []
   ·exfalso; simp_all
   ·have e2 : ¬ b.v ≤ 0 := by rw [hb.v]; have := List.length_pos_iff.2 h2; omega
    rw [if_pos e1, if_neg e2, h1, List.nil_append]
    exact hb.lo h2
  ·have e1 : ¬ a.v ≤ 0 := by rw [ha.v]; have := List.length_pos_iff.2 h1; omega
   rw [if_neg e1]
   obtain ⟨m1, l1⟩ := ha.lo h1
   by_cases h2 : nnV y = []
   ·have e2 : b.v ≤ 0 := by rw [hb.v, h2]; decide
    rw [if_pos e2, h2, List.append_nil]
    exact ha.lo h1
   ·have e2 : ¬ b.v ≤ 0 := by rw [hb.v]; have := List.length_pos_iff.2 h2; omega
    rw [if_neg e2]
    obtain ⟨m2, l2⟩ := hb.lo h2
    by_cases hc : lessV b.lo a.lo = true
    ·rw [if_pos hc]
     refine ⟨List.mem_append_right _ m2, fun v hv => ?_⟩
     rcases List.mem_append.1 hv with hv | hv
     ·exact lessV_nt (l1 v hv) (lessV_asymm hc)
     ·exact l2 v hv
    ·rw [if_neg hc]
     refine ⟨List.mem_append_left _ m1, fun v hv => ?_⟩
     rcases List.mem_append.1 hv with hv | hv
     ·exact l1 v hv
     ·exact lessV_nt (l2 v hv) (by simpa using hc)
 ·rw [nnV_append]
  intro _
  simp only [joinV]
  by_cases h1 : nnV x = []
  ·have e1 : a.v ≤ 0 := by rw [ha.v, h1]; decide
   by_cases h2 : nnV y = []
   ·exfalso; simp_all
   ·have e2 : ¬ b.v ≤ 0 := by rw [hb.v]; have := List.length_pos_iff.2 h2; omega
    rw [if_pos e1, if_neg e2, h1, List.nil_append]
    exact hb.hi h2
  ·have e1 : ¬ a.v ≤ 0 := by rw [ha.v]; have := List.length_pos_iff.2 h1; omega
   rw [if_neg e1]
   obtain ⟨m1, l1⟩ := ha.hi h1
   by_cases h2 : nnV y = []
   ·have e2 : b.v ≤ 0 := by rw [hb.v, h2]; decide
    rw [if_pos e2, h2, List.append_nil]
    exact ha.hi h1
   ·have e2 : ¬ b.v ≤ 0 := by rw [hb.v]; have := List.length_pos_iff.2 h2; omega
    rw [if_neg e2]
    obtain ⟨m2, l2⟩ := hb.hi h2
    by_cases hc : lessV a.hi b.hi = true
    ·rw [if_pos hc]
     refine ⟨List.mem_append_right _ m2, fun v hv => ?_⟩
     rcases List.mem_append.1 hv with hv | hv
     ·exact lessV_nt (lessV_asymm hc) (l1 v hv)
     ·exact l2 v hv
    ·rw [if_neg hc]
     refine ⟨List.mem_append_left _ m1, fun v hv => ?_⟩
     rcases List.mem_append.1 hv with hv | hv
     ·exact l1 v hv
     ·exact lessV_nt (by simpa using hc) (l2 v hv)
def colV (rows : List (List S37)) (col : Int) : List S37 := rows.map (fun r => rd_T37 r col)
theorem Says.fold (col : Int) : ∀ (rows : List (List S37)) (a : Sm) (x : List S37), Says a x →
  (∀ r ∈ rows, (Lit.int .i64 (rd_T37 r col).f1).wf = true) → x.length + rows.length < 9223372036854775808 → Says (foldV col a rows) (x ++ colV rows col) := by
 intro rows
 induction rows with
 | nil => intro a x ha _ _; simpa [foldV, colV] using ha
 | cons r rest ih =>
  intro a x ha hw hl
  rw [List.length_cons] at hl
  have := ih (joinV a (oneV (rd_T37 r col))) (x ++ [rd_T37 r col])
   (ha.join (.one _ (hw r (List.mem_cons_self ..))) (by simp; omega)) (fun q hq => hw q (List.mem_cons_of_mem _ hq)) (by simp; omega)
  rw [List.append_assoc] at this
  exact this
theorem rdT_wf (r : List S37) (c : Int) (hw : ∀ x ∈ r, (Lit.int .i64 x.f1).wf = true) : (Lit.int .i64 (rd_T37 r c).f1).wf = true := by
 unfold rd_T37
 rw [List.getD_eq_getElem?_getD]
 cases h : r[c.toNat]? with
 | none => rfl
 | some x => exact hw x (List.mem_of_getElem? h)
theorem Says.ofRows (col : Int) (rows : List (List S37)) (hw : ∀ r ∈ rows, ∀ x ∈ r, (Lit.int .i64 x.f1).wf = true) (hl : rows.length < 9223372036854775808) :
  Says (foldV col zeroS rows) (colV rows col) := by
 have := Says.fold col rows zeroS [] .zero (fun r hr => rdT_wf r col (hw r hr)) (by simpa using hl)
 rwa [List.nil_append] at this
theorem S_ext {a b : S37} (h0 : a.f0 = b.f0) (h1 : a.f1 = b.f1) (h2 : a.f2 = b.f2) : a = b := by cases a; cases b; simp_all
theorem lessV_total {a b : S37} (ha : a.f0 = false) (hb : b.f0 = false) (h1 : lessV a b = false) (h2 : lessV b a = false) : a = b := by
 unfold lessV at h1 h2
 have hz : Thy.cmpV a.f0 a.f1 a.f2 b.f0 b.f1 b.f2 = 0 := by
  have e1 : ¬ Thy.cmpV a.f0 a.f1 a.f2 b.f0 b.f1 b.f2 < 0 := fun h => by rw [Thy.cmpV_lt.1 h] at h1; cases h1
  have e2 : ¬ Thy.cmpV a.f0 a.f1 a.f2 b.f0 b.f1 b.f2 > 0 := fun h => by rw [Thy.cmpV_gt.1 h] at h2; cases h2
  omega
 rcases Thy.cmpV_zero.1 hz with ⟨h, _⟩ | ⟨_, _, e1, e2⟩
 ·rw [ha] at h; cases h
 ·exact S_ext (ha.trans hb.symm) e1 e2
theorem nnV_null {v : S37} {vs : List S37} (h : v ∈ nnV vs) : v.f0 = false := by
 have := (List.mem_filter.1 h).2
 simpa using this
/-- what a sum says of values, tells it -/
theorem Says.only {a b : Sm} {x y : List S37} (ha : Says a x) (hb : Says b y) (hp : x.Perm y) : a = b := by
 have hn : (nnV x).Perm (nnV y) := hp.filter _
 have hc : a.c = b.c := by rw [ha.c, hb.c, hp.length_eq]
 have hv : a.v = b.v := by rw [ha.v, hb.v, hn.length_eq]
 have hs : a.s = b.s := by rw [ha.sm, hb.sm, sumV_perm hn]
 have hlh : a.lo = b.lo ∧ a.hi = b.hi := by
  by_cases h : nnV x = []
  ·have h' : nnV y = [] := by rw [h] at hn; exact hn.symm.eq_nil
   obtain ⟨p1, p2⟩ := ha.no h
   obtain ⟨q1, q2⟩ := hb.no h'
   exact ⟨p1.trans q1.symm, p2.trans q2.symm⟩
  ·have h' : nnV y ≠ [] := fun e => h (by rw [e] at hn; exact hn.eq_nil)
   obtain ⟨p1, p2⟩ := ha.lo h
   obtain ⟨q1, q2⟩ := hb.lo h'
   obtain ⟨p3, p4⟩ := ha.hi h
   obtain ⟨q3, q4⟩ := hb.hi h'
   exact ⟨lessV_total (nnV_null p1) (nnV_null q1) (q2 _ (hn.mem_iff.1 p1)) (p2 _ (hn.mem_iff.2 q1)), lessV_total (nnV_null p3) (nnV_null q3) (p4 _ (hn.mem_iff.2 q3)) (q4 _ (hn.mem_iff.1 p3))⟩
 cases a; cases b
 simp_all

end Go.Proofs.Ythlelhndmnkmjaa.Pr
