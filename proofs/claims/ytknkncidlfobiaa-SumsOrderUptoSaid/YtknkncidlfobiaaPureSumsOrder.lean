/- The law SumsOrder: its walk, out of the contracts of what it calls. -/
import Derived.Test.YtknkncidlfobiaaRdk
import Derived.Test.YtknkncidlfobiaaPr0
import Derived.Test.YtknkncidlfobiaaPrf12
import Derived.Test.YtknkncidlfobiaaPrf28
import Derived.Test.YtknkncidlfobiaaPrf29
import Derived.Test.YtknkncidlfobiaaPrf32
import Derived.Test.YtknkncidlfobiaaPrf33
import Derived.Test.YtknkncidlfobiaaPrf43xc
import Derived.Test.YtknkncidlfobiaaPrzSums
namespace Go.Proofs.Ytknkncidlfobiaa.Pr
open Go.RowKit Go.Proofs.Ytknkncidlfobiaa.Brid Go.Proofs.YtknkncidlfobiaaW.PrintWords Go.Proofs.YtknkncidlfobiaaW.PrintLast Go.Proofs.YtknkncidlfobiaaW.PrintMore
set_option linter.unusedVariables false
set_option linter.unusedSimpArgs false
theorem heapVo : Kd.Heap k23 := Kd.heap_iso _ (Kd.heap_pair Kd.heap_scalar (Kd.heap_pair (Kd.heap_int _) Kd.heap_scalar))
theorem heapRowo : Kd.Heap (Kd.slice 23 k23) := Kd.heap_slice _ heapVo
theorem foldV_col (col : Int) (s : Sm) (rows : List (List S23)) : foldV col s rows = (colV rows col).foldl (fun s v => joinV s (oneV v)) s := by
  simp only [foldV, colV, List.foldl_map]
theorem proj_col (l : List (List S23)) (cols : List Int) (n : Nat) (h : n < cols.length) : colV (projV l cols) (n : Int) = colV l cols[n] := by
  simp only [colV, projV, List.map_map]
  apply List.map_congr_left
  intro r _
  simp only [Function.comp, rd_T23, Int.toNat_natCast, List.getD_eq_getElem?_getD, List.getElem?_map, List.getElem?_eq_getElem h, Option.map_some, Option.getD_some]
theorem proj_none (l : List (List S23)) (cols : List Int) (n : Nat) (h : n < cols.length) : (projV l cols).any (fun r => noneB r (n : Int)) = false := by
  rw [List.any_eq_false]
  intro r hr
  obtain ⟨q, _, rfl⟩ := List.mem_map.1 hr
  simp only [noneB, List.length_map, Bool.or_eq_true, decide_eq_true_eq]
  omega
theorem cols_none {l : List (List S23)} {cols : List Int} (hb : badP l cols = false) (n : Nat) (h : n < cols.length) : l.any (fun r => noneB r cols[n]) = false := by
  rw [List.any_eq_false]
  intro r hr hn
  unfold badP at hb
  rw [List.any_eq_false] at hb
  exact hb r hr (List.any_eq_true.2 ⟨cols[n], List.getElem_mem h, hn⟩)
theorem order_cols (l : List (List S23)) (cols : List Int) (hc : cols.length ≤ 1048576) (hb : badP l cols = false) : ∀ (d k n : Nat), n + d = cols.length → 3 * d + 2 ≤ k →
    tithebarnlaw18_SumsOrder.l1 k l cols (projV l cols) 0 (n : Int) = some true := by
  intro d
  induction d with
  | zero =>
    intro k n hn hk
    obtain ⟨k, rfl⟩ : ∃ m, k = m + 2 := ⟨k - 2, by omega⟩
    rw [tithebarnlaw18_SumsOrder.l1, if_neg (by omega), tithebarnlaw18_SumsOrder.j3, if_neg (by decide)]
  | succ d ih =>
    intro k n hn hk
    obtain ⟨k, rfl⟩ : ∃ m, k = m + 3 := ⟨k - 3, by omega⟩
    have hlt : n < cols.length := by omega
    have hw1 : wrap64 ((n : Int) + 1) = ((n + 1 : Nat) : Int) := by unfold wrap64; omega
    rw [tithebarnlaw18_SumsOrder.l1, if_pos (by omega), if_pos rfl, tithebarnlaw18_SumsOrder.j3]
    by_cases h : (l.length : Int) > 0
    · rw [if_pos (decide_eq_true h)]
      have he : foldV (n : Int) zeroS (projV l cols) = foldV cols[n] zeroS l := by rw [foldV_col, foldV_col, proj_col l cols n hlt]
      have hs : ∀ X : Sm, (!(X.c == X.c) || (!(X.s == X.s) || (!(X.v == X.v) || ((!(X.lo.f0 == X.lo.f0) || (!(X.lo.f1 == X.lo.f1) || (!(X.lo.f2.toList == X.lo.f2.toList)))) || ((!(X.hi.f0 == X.hi.f0) || (!(X.hi.f1 == X.hi.f1) || (!(X.hi.f2.toList == X.hi.f2.toList))))))))) = false := by intro X; simp
      simp only [sums_Fold_c.f, proj_none l cols n hlt, Option.bind_some, Bool.false_eq_true, if_false, he]
      rw [if_pos (by omega), if_pos (by omega), rdI_at cols n hlt]
      simp only [cols_none hb n hlt, Bool.false_eq_true, if_false, Option.bind_some, Sm.tup10, hs, if_true]
      rw [tithebarnlaw18_SumsOrder.j4, if_neg (by decide), hw1]
      exact ih k (n + 1) (by omega) (by omega)
    · rw [if_neg (by simpa using h)]
theorem order_back (l : List (List S23)) (cols : List Int) (col : Int) (hl : l.length ≤ 1048576) (hc : cols.length ≤ 1048576) (hw : ∀ r ∈ l, ∀ x ∈ r, (Lit.int .i64 x.f1).wf = true) : ∀ (m k : Nat), m ≤ l.length → m + 3 * cols.length + 10 ≤ k →
    tithebarnlaw18_SumsOrder.l0 k l col cols (if l.any (fun r => noneB r col) then 7 else 0) ((l.drop m).reverse) ((m : Int) - 1) (if l.any (fun r => noneB r col) then zeroS else foldV col zeroS l).c (if l.any (fun r => noneB r col) then zeroS else foldV col zeroS l).s (if l.any (fun r => noneB r col) then zeroS else foldV col zeroS l).v (if l.any (fun r => noneB r col) then zeroS else foldV col zeroS l).lo.f0 (if l.any (fun r => noneB r col) then zeroS else foldV col zeroS l).lo.f1 (if l.any (fun r => noneB r col) then zeroS else foldV col zeroS l).lo.f2 (if l.any (fun r => noneB r col) then zeroS else foldV col zeroS l).hi.f0 (if l.any (fun r => noneB r col) then zeroS else foldV col zeroS l).hi.f1 (if l.any (fun r => noneB r col) then zeroS else foldV col zeroS l).hi.f2 = some true := by
  have hs : ∀ X : Sm, (!(X.c == X.c) || (!(X.s == X.s) || (!(X.v == X.v) || ((!(X.lo.f0 == X.lo.f0) || (!(X.lo.f1 == X.lo.f1) || (!(X.lo.f2.toList == X.lo.f2.toList)))) || ((!(X.hi.f0 == X.hi.f0) || (!(X.hi.f1 == X.hi.f1) || (!(X.hi.f2.toList == X.hi.f2.toList))))))))) = false := by intro X; simp
  intro m
  induction m with
  | zero =>
    intro k _ hk
    obtain ⟨k, rfl⟩ : ∃ m, k = m + 2 := ⟨k - 2, by omega⟩
    have hf : foldV col zeroS l.reverse = foldV col zeroS l := by
      refine (Says.ofRows col l.reverse (fun r hr => hw r (List.mem_reverse.1 hr)) (by rw [List.length_reverse]; omega)).only (Says.ofRows col l hw (by omega)) ?_
      simp only [colV, List.map_reverse]
      exact List.reverse_perm _
    have hF : sums_Fold_c.f l.reverse col = some ((if l.any (fun r => noneB r col) then zeroS else foldV col zeroS l).tup10 (if l.any (fun r => noneB r col) then 7 else 0)) := by
      rw [sums_Fold_c.f, List.any_reverse, hf]
      split <;> rfl
    generalize (if l.any (fun r => noneB r col) then zeroS else foldV col zeroS l) = X at *
    generalize (if l.any (fun r => noneB r col) = true then (7 : Int) else 0) = E at *
    rw [List.drop_zero, tithebarnlaw18_SumsOrder.l0, if_neg (by omega), hF]
    simp only [Option.bind_some, Sm.tup10, hs, Bool.false_eq_true, if_false, bne_self_eq_false]
    rw [tithebarnlaw18_SumsOrder.j1, if_neg (by decide)]
    simp only [sums_Project_c.f, if_pos (show cols.length ≤ 4398046511104 by omega), if_pos (show l.length ≤ 5864062014805 by omega), Option.bind_some]
    by_cases hb : badP l cols = true
    · rw [if_pos hb]
      obtain ⟨k, rfl⟩ : ∃ m, k = m + 2 := ⟨k - 2, by omega⟩
      show tithebarnlaw18_SumsOrder.l1 (k + 2) l cols [] 7 0 = some true
      rw [tithebarnlaw18_SumsOrder.l1]
      split
      · rw [if_neg (by decide), tithebarnlaw18_SumsOrder.j3, if_neg (by decide)]
      · rw [tithebarnlaw18_SumsOrder.j3, if_neg (by decide)]
    · rw [if_neg hb]
      exact order_cols l cols hc (by simpa using hb) cols.length k 0 (by omega) (by omega)
  | succ m ih =>
    intro k hm hk
    obtain ⟨k, rfl⟩ : ∃ m, k = m + 1 := ⟨k - 1, by omega⟩
    have hlt : m < l.length := by omega
    have e1 : ((m + 1 : Nat) : Int) - 1 = (m : Int) := by omega
    have e2 : wrap64 ((m : Int) - 1) = (m : Int) - 1 := by unfold wrap64; omega
    have e3 : (l.drop (m + 1)).reverse ++ [l[m]] = (l.drop m).reverse := by rw [List.drop_eq_getElem_cons hlt, List.reverse_cons]
    rw [e1, tithebarnlaw18_SumsOrder.l0, if_pos (by omega), if_pos (by omega), if_pos (by omega), if_pos (by rw [List.length_reverse, List.length_drop]; omega), rdRow_at l m hlt, e2, e3]
    exact ih k (by omega) (by omega)
theorem SumsOrder_walk (W : World) (A0 : Option Addr) (c0 : Nat) (l0 : List (List (S23))) (hc0 : l0.length ≤ c0) (hr0 : Kd.C (Kd.slice 23 k23) W A0 l0.length l0) (b0 : BL (BL B23) l0 1048576) (a1 : Int) (b1 : (Lit.int .i64 a1).wf = true) (A2 : Option Addr) (c2 : Nat) (l2 : List (Int)) (hc2 : l2.length ≤ c2) (hr2 : Kd.C (Kd.int .i64) W A2 l2.length l2) (b2 : BL (BI .i64) l2 1048576) :
    Calls Try.prog 12 #[.slice A0 l0.length c0, .int .i64 a1, .slice A2 l2.length c2] W fun e W' => e = .returned (.bool true) ∧ Below W.heap.size W W' := by
  obtain ⟨g0, g1⟩ := b0
  obtain ⟨g2, _⟩ := b2
  have hwf : ∀ r ∈ l0, ∀ x ∈ r, (Lit.int .i64 x.f1).wf = true := fun r hr x hx => (B23_open ((g1 r hr).2 x hx)).2.1
  refine tithebarnlaw18_SumsOrder.calls (l0.length + 3 * l2.length + 10) (fun k => k < W.heap.size) A0 c0 l0 a1 A2 c2 l2 true W (Kd.V_mk hc0 (Kd.C_F heapRowo hr0)) hr2 hc2 ?_
  have := order_back l0 l2 a1 g0 g2 hwf l0.length (l0.length + 3 * l2.length + 10) (by omega) (by omega)
  have hw : wrap64 ((l0.length : Int) - 1) = (l0.length : Int) - 1 := by unfold wrap64; omega
  have hF : sums_Fold_c.f l0 a1 = some ((if l0.any (fun r => noneB r a1) then zeroS else foldV a1 zeroS l0).tup10 (if l0.any (fun r => noneB r a1) then 7 else 0)) := by
    rw [sums_Fold_c.f]
    split <;> rfl
  rw [List.drop_eq_nil_of_le (Nat.le_refl _), List.reverse_nil] at this
  simp only [tithebarnlaw18_SumsOrder.f, tithebarnlaw18_lives_c.f, Option.bind_some, if_true, hF, hw, Sm.tup10]
  exact this

end Go.Proofs.Ytknkncidlfobiaa.Pr
