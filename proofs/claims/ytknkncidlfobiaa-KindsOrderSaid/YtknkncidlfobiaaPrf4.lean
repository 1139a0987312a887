-- printed by xprint.py (this seat's own program, over the kit's print.py); not trusted: Lean checks it
import Derived.Test.YtknkncidlfobiaaPr0
import Derived.Test.YtknkncidlfobiaaPrf16
import Derived.Test.YtknkncidlfobiaaPrf15
namespace Go.Proofs.Ytknkncidlfobiaa.Pr
open Go.RowKit Go.Proofs.YtknkncidlfobiaaW.PrintWords Go.Proofs.YtknkncidlfobiaaW.PrintLast Go.Proofs.YtknkncidlfobiaaW.PrintMore
attribute [local go_sem] max2_int min2_int max_two min_two max_three min_three max_four min_four   -- for this text's walks alone
set_option linter.unusedVariables false
set_option linter.unusedSimpArgs false

/-! ### tithebarnlaw02_KindsOrder: function 4 -/
def tithebarnlaw02_KindsOrder.j0 : Nat → Int → Int → Int → Bool → Bool → Int → ByteArray → Bool → Int → ByteArray → Option (Bool)
  | 0, _, _, _, _, _, _, _, _, _, _ => none
  | k + 1, x7, x8, x9, x10, x146000, x146001, x146002, x147000, x147001, x147002 => (kinds_Compare_c.f x147000 x147001 x147002 x146000 x146001 x146002).bind fun t152 => (if t152 = (wrap64 (-x7)) then (if ((x7 == 0) == x10) = true then (if x7 > 0 then (if x7 ≥ 0 then (if x7 ≥ (-1) then (some (decide (x7 ≤ 1))) else (some false)) else (if x8 > 0 then (if x7 ≥ (-1) then (some (decide (x7 ≤ 1))) else (some false)) else (if x9 < 0 then (if x7 ≥ (-1) then (some (decide (x7 ≤ 1))) else (some false)) else (some false)))) else (if x8 > 0 then (if x7 ≥ 0 then (if x8 ≥ 0 then (if x7 ≥ (-1) then (some (decide (x7 ≤ 1))) else (some false)) else (if x9 < 0 then (if x7 ≥ (-1) then (some (decide (x7 ≤ 1))) else (some false)) else (some false))) else (if x8 ≥ 0 then (if x7 ≥ (-1) then (some (decide (x7 ≤ 1))) else (some false)) else (if x9 < 0 then (if x7 ≥ (-1) then (some (decide (x7 ≤ 1))) else (some false)) else (some false)))) else (if x9 ≤ 0 then (if x7 ≥ 0 then (if x8 ≥ 0 then (if x7 ≥ (-1) then (some (decide (x7 ≤ 1))) else (some false)) else (if x9 < 0 then (if x7 ≥ (-1) then (some (decide (x7 ≤ 1))) else (some false)) else (some false))) else (if x9 < 0 then (if x8 ≥ 0 then (if x7 ≥ (-1) then (some (decide (x7 ≤ 1))) else (some false)) else (if x7 ≥ (-1) then (some (decide (x7 ≤ 1))) else (some false))) else (some false))) else (some false)))) else (some false)) else (some false))
def tithebarnlaw02_KindsOrder.f (k : Nat) (a0_0 : Bool) (a0_1 : Int) (a0_2 : ByteArray) (a1_0 : Bool) (a1_1 : Int) (a1_2 : ByteArray) (a2_0 : Bool) (a2_1 : Int) (a2_2 : ByteArray) : Option (Bool) := (tithebarnlaw02_lives_c.f).bind fun t148 => (if t148 = true then ((kinds_Compare_c.f a0_0 a0_1 a0_2 a1_0 a1_1 a1_2).bind fun t149 => ((kinds_Compare_c.f a1_0 a1_1 a1_2 a2_0 a2_1 a2_2).bind fun t150 => ((kinds_Compare_c.f a0_0 a0_1 a0_2 a2_0 a2_1 a2_2).bind fun t151 => (if a0_0 = true then (if a1_0 = true then (tithebarnlaw02_KindsOrder.j0 k t149 t150 t151 true a0_0 a0_1 a0_2 a1_0 a1_1 a1_2) else (tithebarnlaw02_KindsOrder.j0 k t149 t150 t151 false a0_0 a0_1 a0_2 a1_0 a1_1 a1_2)) else (if a1_0 = true then (tithebarnlaw02_KindsOrder.j0 k t149 t150 t151 false a0_0 a0_1 a0_2 a1_0 a1_1 a1_2) else (if a0_1 = a1_1 then (tithebarnlaw02_KindsOrder.j0 k t149 t150 t151 (a0_2.toList == a1_2.toList) a0_0 a0_1 a0_2 a1_0 a1_1 a1_2) else (tithebarnlaw02_KindsOrder.j0 k t149 t150 t151 false a0_0 a0_1 a0_2 a1_0 a1_1 a1_2))))))) else (some false))
theorem tithebarnlaw02_KindsOrder.mono_l : ∀ k, (∀ y0 y1 y2 y3 y4 y5 y6 y7 y8 y9, LeO (tithebarnlaw02_KindsOrder.j0 k y0 y1 y2 y3 y4 y5 y6 y7 y8 y9) (tithebarnlaw02_KindsOrder.j0 (k + 1) y0 y1 y2 y3 y4 y5 y6 y7 y8 y9))
  | 0 => fun _ _ _ _ _ _ _ _ _ _ r h => by simp [tithebarnlaw02_KindsOrder.j0] at h
  | k + 1 => by
    have ih0 := tithebarnlaw02_KindsOrder.mono_l k
    · intro y0 y1 y2 y3 y4 y5 y6 y7 y8 y9
      unfold tithebarnlaw02_KindsOrder.j0
      repeat' first
      | (with_reducible exact ih0 _ _ _ _ _ _ _ _ _ _)
      | (with_reducible exact LeO.refl _)
      | (with_reducible exact LeO.none _)
      | (with_reducible refine LeO.ite ?_ ?_)
      | (with_reducible refine LeO.bind ?_ (fun _ => ?_))
      | exact ih0 _ _ _ _ _ _ _ _ _ _
      | exact LeO.none _
      | refine LeO.ite ?_ ?_
      | refine LeO.bind ?_ (fun _ => ?_)
theorem tithebarnlaw02_KindsOrder.mono : ∀ a0 a1 a2 a3 a4 a5 a6 a7 a8 k, LeO (tithebarnlaw02_KindsOrder.f k a0 a1 a2 a3 a4 a5 a6 a7 a8) (tithebarnlaw02_KindsOrder.f (k + 1) a0 a1 a2 a3 a4 a5 a6 a7 a8) := by
  intro a0 a1 a2 a3 a4 a5 a6 a7 a8 k
  have ih0 := tithebarnlaw02_KindsOrder.mono_l k
  unfold tithebarnlaw02_KindsOrder.f
  repeat' first
      | (with_reducible exact ih0 _ _ _ _ _ _ _ _ _ _)
      | (with_reducible exact LeO.refl _)
      | (with_reducible exact LeO.none _)
      | (with_reducible refine LeO.ite ?_ ?_)
      | (with_reducible refine LeO.bind ?_ (fun _ => ?_))
      | exact ih0 _ _ _ _ _ _ _ _ _ _
      | exact LeO.none _
      | refine LeO.ite ?_ ?_
      | refine LeO.bind ?_ (fun _ => ?_)
def tithebarnlaw02_KindsOrder.T3 : Bool × List (List Nat × List Nat) := (true, [([], []), ([], []), ([0, 1], [0, 1]), ([], []), ([], []), ([3, 4, 2], [3, 4]), ([], []), ([], []), ([6, 7, 5], [6, 7]), ([2, 8, 0, 1, 2], [2]), ([5, 9, 0, 1, 2, 3, 4, 5, 9], [5]), ([8, 10, 0, 1, 2, 3, 4, 5, 6, 7, 8, 9, 10], [8])])
def tithebarnlaw02_KindsOrder.B3 : List Nat := [0, 0, 3, 0, 0, 31, 0, 0, 255, 511, 1023, 2047]
theorem tithebarnlaw02_KindsOrder.tab3 : rtab .any (opsOf Try.f4 3) = tithebarnlaw02_KindsOrder.T3 := by kernel_rfl
theorem tithebarnlaw02_KindsOrder.bits3 : waitsOk tithebarnlaw02_KindsOrder.T3.2 tithebarnlaw02_KindsOrder.B3 = true := by kernel_rfl
set_option maxHeartbeats 8000000 in
set_option maxRecDepth 100000 in
theorem tithebarnlaw02_KindsOrder.calls (k : Nat) (a0_0 : Bool) (a0_1 : Int) (a0_2 : ByteArray) (a1_0 : Bool) (a1_1 : Int) (a1_2 : ByteArray) (a2_0 : Bool) (a2_1 : Int) (a2_2 : ByteArray) (r : Bool) (w : World) (h : tithebarnlaw02_KindsOrder.f k a0_0 a0_1 a0_2 a1_0 a1_1 a1_2 a2_0 a2_1 a2_2 = some r) :
    Calls Try.prog 4 #[.agg #[.bool a0_0, .int .i64 a0_1, .string a0_2], .agg #[.bool a1_0, .int .i64 a1_1, .string a1_2], .agg #[.bool a2_0, .int .i64 a2_1, .string a2_2]] w fun e w' => e = .returned (.bool r) ∧ Below w.heap.size w w' := by
  have hu23 := Try.underlying23
  have HB := Aside0.mk (Below.refl w.heap.size w)
  have H : ((tithebarnlaw02_lives_c.f).bind fun t148 => (if t148 = true then ((kinds_Compare_c.f a0_0 a0_1 a0_2 a1_0 a1_1 a1_2).bind fun t149 => ((kinds_Compare_c.f a1_0 a1_1 a1_2 a2_0 a2_1 a2_2).bind fun t150 => ((kinds_Compare_c.f a0_0 a0_1 a0_2 a2_0 a2_1 a2_2).bind fun t151 => (if a0_0 = true then (if a1_0 = true then (tithebarnlaw02_KindsOrder.j0 k t149 t150 t151 true a0_0 a0_1 a0_2 a1_0 a1_1 a1_2) else (tithebarnlaw02_KindsOrder.j0 k t149 t150 t151 false a0_0 a0_1 a0_2 a1_0 a1_1 a1_2)) else (if a1_0 = true then (tithebarnlaw02_KindsOrder.j0 k t149 t150 t151 false a0_0 a0_1 a0_2 a1_0 a1_1 a1_2) else (if a0_1 = a1_1 then (tithebarnlaw02_KindsOrder.j0 k t149 t150 t151 (a0_2.toList == a1_2.toList) a0_0 a0_1 a0_2 a1_0 a1_1 a1_2) else (tithebarnlaw02_KindsOrder.j0 k t149 t150 t151 false a0_0 a0_1 a0_2 a1_0 a1_1 a1_2))))))) else (some false))) = some r := h
  clear h
  replace H := Option.bind_eq_some_iff.mp H
  obtain ⟨t148, A40, H⟩ := H
  replace H : (if t148 = true then ((kinds_Compare_c.f a0_0 a0_1 a0_2 a1_0 a1_1 a1_2).bind fun t149 => ((kinds_Compare_c.f a1_0 a1_1 a1_2 a2_0 a2_1 a2_2).bind fun t150 => ((kinds_Compare_c.f a0_0 a0_1 a0_2 a2_0 a2_1 a2_2).bind fun t151 => (if a0_0 = true then (if a1_0 = true then (tithebarnlaw02_KindsOrder.j0 k t149 t150 t151 true a0_0 a0_1 a0_2 a1_0 a1_1 a1_2) else (tithebarnlaw02_KindsOrder.j0 k t149 t150 t151 false a0_0 a0_1 a0_2 a1_0 a1_1 a1_2)) else (if a1_0 = true then (tithebarnlaw02_KindsOrder.j0 k t149 t150 t151 false a0_0 a0_1 a0_2 a1_0 a1_1 a1_2) else (if a0_1 = a1_1 then (tithebarnlaw02_KindsOrder.j0 k t149 t150 t151 (a0_2.toList == a1_2.toList) a0_0 a0_1 a0_2 a1_0 a1_1 a1_2) else (tithebarnlaw02_KindsOrder.j0 k t149 t150 t151 false a0_0 a0_1 a0_2 a1_0 a1_1 a1_2))))))) else (some false)) = some r := H
  have A4 := Aside0.mk A40
  clear A40
  by_cases c5 : t148 = true
  · subst c5
    have H1 : ((kinds_Compare_c.f a0_0 a0_1 a0_2 a1_0 a1_1 a1_2).bind fun t149 => ((kinds_Compare_c.f a1_0 a1_1 a1_2 a2_0 a2_1 a2_2).bind fun t150 => ((kinds_Compare_c.f a0_0 a0_1 a0_2 a2_0 a2_1 a2_2).bind fun t151 => (if a0_0 = true then (if a1_0 = true then (tithebarnlaw02_KindsOrder.j0 k t149 t150 t151 true a0_0 a0_1 a0_2 a1_0 a1_1 a1_2) else (tithebarnlaw02_KindsOrder.j0 k t149 t150 t151 false a0_0 a0_1 a0_2 a1_0 a1_1 a1_2)) else (if a1_0 = true then (tithebarnlaw02_KindsOrder.j0 k t149 t150 t151 false a0_0 a0_1 a0_2 a1_0 a1_1 a1_2) else (if a0_1 = a1_1 then (tithebarnlaw02_KindsOrder.j0 k t149 t150 t151 (a0_2.toList == a1_2.toList) a0_0 a0_1 a0_2 a1_0 a1_1 a1_2) else (tithebarnlaw02_KindsOrder.j0 k t149 t150 t151 false a0_0 a0_1 a0_2 a1_0 a1_1 a1_2))))))) = some r := by rw [if_pos rfl] at H; exact H
    clear H
    have H := H1
    clear H1
    replace H := Option.bind_eq_some_iff.mp H
    obtain ⟨t149, A60, H⟩ := H
    replace H : ((kinds_Compare_c.f a1_0 a1_1 a1_2 a2_0 a2_1 a2_2).bind fun t150 => ((kinds_Compare_c.f a0_0 a0_1 a0_2 a2_0 a2_1 a2_2).bind fun t151 => (if a0_0 = true then (if a1_0 = true then (tithebarnlaw02_KindsOrder.j0 k t149 t150 t151 true a0_0 a0_1 a0_2 a1_0 a1_1 a1_2) else (tithebarnlaw02_KindsOrder.j0 k t149 t150 t151 false a0_0 a0_1 a0_2 a1_0 a1_1 a1_2)) else (if a1_0 = true then (tithebarnlaw02_KindsOrder.j0 k t149 t150 t151 false a0_0 a0_1 a0_2 a1_0 a1_1 a1_2) else (if a0_1 = a1_1 then (tithebarnlaw02_KindsOrder.j0 k t149 t150 t151 (a0_2.toList == a1_2.toList) a0_0 a0_1 a0_2 a1_0 a1_1 a1_2) else (tithebarnlaw02_KindsOrder.j0 k t149 t150 t151 false a0_0 a0_1 a0_2 a1_0 a1_1 a1_2)))))) = some r := H
    have A6 := Aside0.mk A60
    clear A60
    replace H := Option.bind_eq_some_iff.mp H
    obtain ⟨t150, A70, H⟩ := H
    replace H : ((kinds_Compare_c.f a0_0 a0_1 a0_2 a2_0 a2_1 a2_2).bind fun t151 => (if a0_0 = true then (if a1_0 = true then (tithebarnlaw02_KindsOrder.j0 k t149 t150 t151 true a0_0 a0_1 a0_2 a1_0 a1_1 a1_2) else (tithebarnlaw02_KindsOrder.j0 k t149 t150 t151 false a0_0 a0_1 a0_2 a1_0 a1_1 a1_2)) else (if a1_0 = true then (tithebarnlaw02_KindsOrder.j0 k t149 t150 t151 false a0_0 a0_1 a0_2 a1_0 a1_1 a1_2) else (if a0_1 = a1_1 then (tithebarnlaw02_KindsOrder.j0 k t149 t150 t151 (a0_2.toList == a1_2.toList) a0_0 a0_1 a0_2 a1_0 a1_1 a1_2) else (tithebarnlaw02_KindsOrder.j0 k t149 t150 t151 false a0_0 a0_1 a0_2 a1_0 a1_1 a1_2))))) = some r := H
    have A7 := Aside0.mk A70
    clear A70
    replace H := Option.bind_eq_some_iff.mp H
    obtain ⟨t151, A80, H⟩ := H
    replace H : (if a0_0 = true then (if a1_0 = true then (tithebarnlaw02_KindsOrder.j0 k t149 t150 t151 true a0_0 a0_1 a0_2 a1_0 a1_1 a1_2) else (tithebarnlaw02_KindsOrder.j0 k t149 t150 t151 false a0_0 a0_1 a0_2 a1_0 a1_1 a1_2)) else (if a1_0 = true then (tithebarnlaw02_KindsOrder.j0 k t149 t150 t151 false a0_0 a0_1 a0_2 a1_0 a1_1 a1_2) else (if a0_1 = a1_1 then (tithebarnlaw02_KindsOrder.j0 k t149 t150 t151 (a0_2.toList == a1_2.toList) a0_0 a0_1 a0_2 a1_0 a1_1 a1_2) else (tithebarnlaw02_KindsOrder.j0 k t149 t150 t151 false a0_0 a0_1 a0_2 a1_0 a1_1 a1_2)))) = some r := H
    have A8 := Aside0.mk A80
    clear A80
    have HC9 := Aside0.mk H
    clear H
    go_enter Try.func4, Try.ntmps4
    try go_wp2_with (first | ((with_reducible refine gate_dst (N := 3) rfl ?_); refine box_event ?hg (N := 3) ?hd (cs := #[.bool a0_0, .int .i64 a0_1, .string a0_2]) (t := 23) ?hr ?_; (case hd => rfl); (case hg => rfl); (case hr => first | (go_simp; done) | (go_simp; rfl)); intro gb145 hg w10 hbox hb; have n0_ := Aside0.mk (below_step (by repeat (first | (with_reducible first | exact HB.out | apply below_alloc | apply pw_below_drewN | apply below_drew1) | exact HB.out)) hb); have n1_ := Aside0.mk (hbox); have n2_ := Aside0.mk ((by rw [hg]; exact (below_size (by repeat (first | (with_reducible first | exact HB.out | apply below_alloc | apply pw_below_drewN | apply below_drew1) | exact HB.out))) : w.heap.size ≤ gb145)); have n3_ := Aside0.mk ((by rw [hg]; exact (below_size (by repeat (first | (with_reducible first | exact HB.out | apply below_alloc | apply pw_below_drewN | apply below_drew1) | exact HB.out))) : w.heap.size ≤ gb145)); clear HB; have HB := n0_; have BK145 := n1_; have GW145 := n2_; have GE145 := n3_; clear n0_ n1_ n2_ n3_; clear hb hbox hg) | ((with_reducible refine gate_dst (N := 4) rfl ?_); refine box_event ?hg (N := 4) ?hd (cs := #[.bool a1_0, .int .i64 a1_1, .string a1_2]) (t := 23) ?hr ?_; (case hd => rfl); (case hg => rfl); (case hr => first | (go_simp; done) | (go_simp; rfl)); intro gb146 hg w11 hbox hb; have n0_ := Aside0.mk (blk_below (g := gb145) (o := .cells #[.bool a0_0, .int .i64 a0_1, .string a0_2] 23 (0, 0)) (by (with_reducible repeat (first | refine blk_drewN ?_ _ | refine blk_drew ?_ | refine blk_alloc ?_ _)); exact BK145.out) hb); have n1_ := Aside0.mk (below_step (by repeat (first | (with_reducible first | exact HB.out | apply below_alloc | apply pw_below_drewN | apply below_drew1 | refine below_set ?_ GE145.out) | exact HB.out)) hb); have n2_ := Aside0.mk (hbox); have n3_ := Aside0.mk ((by rw [hg]; exact (below_size (by repeat (first | (with_reducible first | exact HB.out | apply below_alloc | apply pw_below_drewN | apply below_drew1 | refine below_set ?_ GE145.out) | exact HB.out))) : w.heap.size ≤ gb146)); have n4_ := Aside0.mk ((by rw [hg]; exact (below_size (by repeat (first | (with_reducible first | exact HB.out | apply below_alloc | apply pw_below_drewN | apply below_drew1 | refine below_set ?_ GE145.out) | exact HB.out))) : w.heap.size ≤ gb146)); have n5_ := Aside0.mk ((by rw [hg]; exact Nat.ne_of_lt (blk_lt (g := gb145) (o := .cells #[.bool a0_0, .int .i64 a0_1, .string a0_2] 23 (0, 0)) (by (with_reducible repeat (first | refine blk_drewN ?_ _ | refine blk_drew ?_ | refine blk_alloc ?_ _)); exact BK145.out)) : gb145 ≠ gb146)); have n6_ := Aside0.mk ((by rw [hg]; exact Nat.ne_of_gt (blk_lt (g := gb145) (o := .cells #[.bool a0_0, .int .i64 a0_1, .string a0_2] 23 (0, 0)) (by (with_reducible repeat (first | refine blk_drewN ?_ _ | refine blk_drew ?_ | refine blk_alloc ?_ _)); exact BK145.out)) : gb146 ≠ gb145)); clear BK145; clear HB; have BK145 := n0_; have HB := n1_; have BK146 := n2_; have GW146 := n3_; have GE146 := n4_; have NB145_146 := n5_; have NB146_145 := n6_; clear n0_ n1_ n2_ n3_ n4_ n5_ n6_; clear hb hbox hg) | ((with_reducible refine gate_dst (N := 5) rfl ?_); refine box_event ?hg (N := 5) ?hd (cs := #[.bool a2_0, .int .i64 a2_1, .string a2_2]) (t := 23) ?hr ?_; (case hd => rfl); (case hg => rfl); (case hr => first | (go_simp; done) | (go_simp; rfl)); intro gb147 hg w12 hbox hb; have n0_ := Aside0.mk (blk_below (g := gb145) (o := .cells #[.bool a0_0, .int .i64 a0_1, .string a0_2] 23 (0, 0)) (by (with_reducible repeat (first | refine blk_drewN ?_ _ | refine blk_drew ?_ | refine blk_alloc ?_ _)); exact BK145.out) hb); have n1_ := Aside0.mk (blk_below (g := gb146) (o := .cells #[.bool a1_0, .int .i64 a1_1, .string a1_2] 23 (0, 0)) (by (with_reducible repeat (first | refine blk_drewN ?_ _ | refine blk_drew ?_ | refine blk_alloc ?_ _)); exact BK146.out) hb); have n2_ := Aside0.mk (below_step (by repeat (first | (with_reducible first | exact HB.out | apply below_alloc | apply pw_below_drewN | apply below_drew1 | refine below_set ?_ GE145.out | refine below_set ?_ GE146.out) | exact HB.out)) hb); have n3_ := Aside0.mk (hbox); have n4_ := Aside0.mk ((by rw [hg]; exact (below_size (by repeat (first | (with_reducible first | exact HB.out | apply below_alloc | apply pw_below_drewN | apply below_drew1 | refine below_set ?_ GE145.out | refine below_set ?_ GE146.out) | exact HB.out))) : w.heap.size ≤ gb147)); have n5_ := Aside0.mk ((by rw [hg]; exact (below_size (by repeat (first | (with_reducible first | exact HB.out | apply below_alloc | apply pw_below_drewN | apply below_drew1 | refine below_set ?_ GE145.out | refine below_set ?_ GE146.out) | exact HB.out))) : w.heap.size ≤ gb147)); have n6_ := Aside0.mk ((by rw [hg]; exact Nat.ne_of_lt (blk_lt (g := gb145) (o := .cells #[.bool a0_0, .int .i64 a0_1, .string a0_2] 23 (0, 0)) (by (with_reducible repeat (first | refine blk_drewN ?_ _ | refine blk_drew ?_ | refine blk_alloc ?_ _)); exact BK145.out)) : gb145 ≠ gb147)); have n7_ := Aside0.mk ((by rw [hg]; exact Nat.ne_of_gt (blk_lt (g := gb145) (o := .cells #[.bool a0_0, .int .i64 a0_1, .string a0_2] 23 (0, 0)) (by (with_reducible repeat (first | refine blk_drewN ?_ _ | refine blk_drew ?_ | refine blk_alloc ?_ _)); exact BK145.out)) : gb147 ≠ gb145)); have n8_ := Aside0.mk ((by rw [hg]; exact Nat.ne_of_lt (blk_lt (g := gb146) (o := .cells #[.bool a1_0, .int .i64 a1_1, .string a1_2] 23 (0, 0)) (by (with_reducible repeat (first | refine blk_drewN ?_ _ | refine blk_drew ?_ | refine blk_alloc ?_ _)); exact BK146.out)) : gb146 ≠ gb147)); have n9_ := Aside0.mk ((by rw [hg]; exact Nat.ne_of_gt (blk_lt (g := gb146) (o := .cells #[.bool a1_0, .int .i64 a1_1, .string a1_2] 23 (0, 0)) (by (with_reducible repeat (first | refine blk_drewN ?_ _ | refine blk_drew ?_ | refine blk_alloc ?_ _)); exact BK146.out)) : gb147 ≠ gb146)); clear BK145; clear BK146; clear HB; have BK145 := n0_; have BK146 := n1_; have HB := n2_; have BK147 := n3_; have GW147 := n4_; have GE147 := n5_; have NB145_147 := n6_; have NB147_145 := n7_; have NB146_147 := n8_; have NB147_146 := n9_; clear n0_ n1_ n2_ n3_ n4_ n5_ n6_ n7_ n8_ n9_; clear hb hbox hg) | ((with_reducible refine gate_callee (f := 15) rfl ?_); refine goesL_ (some 11) rfl rfl Try.func15 (by kernel_rfl) rfl #[] rfl (by (try simp only [List.map_toArray, List.map_cons, List.map_nil]); first | done | rfl | (simp only [List.length_drop, List.length_take]; rfl)) ?_; (with_reducible refine (tithebarnlaw02_lives_c.calls  true _ A4.out).mono ?_); rintro e w13 ⟨rfl, hb⟩; refine ⟨_, rfl, ?_⟩; have n0_ := Aside0.mk (blk_below (g := gb145) (o := .cells #[.bool a0_0, .int .i64 a0_1, .string a0_2] 23 (0, 0)) (by (with_reducible repeat (first | refine blk_drewN ?_ _ | refine blk_drew ?_ | refine blk_alloc ?_ _)); exact BK145.out) hb); have n1_ := Aside0.mk (blk_below (g := gb146) (o := .cells #[.bool a1_0, .int .i64 a1_1, .string a1_2] 23 (0, 0)) (by (with_reducible repeat (first | refine blk_drewN ?_ _ | refine blk_drew ?_ | refine blk_alloc ?_ _)); exact BK146.out) hb); have n2_ := Aside0.mk (blk_below (g := gb147) (o := .cells #[.bool a2_0, .int .i64 a2_1, .string a2_2] 23 (0, 0)) (by (with_reducible repeat (first | refine blk_drewN ?_ _ | refine blk_drew ?_ | refine blk_alloc ?_ _)); exact BK147.out) hb); have n3_ := Aside0.mk (below_step (by repeat (first | (with_reducible first | exact HB.out | apply below_alloc | apply pw_below_drewN | apply below_drew1 | refine below_set ?_ GE145.out | refine below_set ?_ GE146.out | refine below_set ?_ GE147.out) | exact HB.out)) hb); clear BK145; clear BK146; clear BK147; clear HB; have BK145 := n0_; have BK146 := n1_; have BK147 := n2_; have HB := n3_; clear n0_ n1_ n2_ n3_; (try clear hb); (try clear hb2); (try clear hk); (try clear hi)))
    have n0_ := Aside0.mk (blk_drew BK145.out)
    have n1_ := Aside0.mk (blk_drew BK146.out)
    have n2_ := Aside0.mk (blk_drew BK147.out)
    have n3_ := Aside0.mk (below_drew1 HB.out)
    clear BK145
    clear BK146
    clear BK147
    clear HB
    have BK145 := n0_
    have BK146 := n1_
    have BK147 := n2_
    have HB := n3_
    clear n0_ n1_ n2_ n3_
    refine start_ (n := 12) (S := fun w' => w'.cell? ⟨gb145, 0, none⟩ = some (.bool a0_0) ∧ w'.cell? ⟨gb145, 1, none⟩ = some (.int .i64 a0_1) ∧ w'.cell? ⟨gb145, 2, none⟩ = some (.string a0_2) ∧ w'.cell? ⟨gb146, 0, none⟩ = some (.bool a1_0) ∧ w'.cell? ⟨gb146, 1, none⟩ = some (.int .i64 a1_1) ∧ w'.cell? ⟨gb146, 2, none⟩ = some (.string a1_2) ∧ w'.cell? ⟨gb147, 0, none⟩ = some (.bool a2_0) ∧ w'.cell? ⟨gb147, 1, none⟩ = some (.int .i64 a2_1) ∧ w'.cell? ⟨gb147, 2, none⟩ = some (.string a2_2)) (ds := []) #[false, false, false, false, false, false, false, false, false, false, false, false] (by kernel_rfl) rfl rfl ⟨(blk_cell BK145.out 0).trans rfl, (blk_cell BK145.out 1).trans rfl, (blk_cell BK145.out 2).trans rfl, (blk_cell BK146.out 0).trans rfl, (blk_cell BK146.out 1).trans rfl, (blk_cell BK146.out 2).trans rfl, (blk_cell BK147.out 0).trans rfl, (blk_cell BK147.out 1).trans rfl, (blk_cell BK147.out 2).trans rfl⟩ (fun hHeld => ?_); refine with_tabW tithebarnlaw02_KindsOrder.tab3 tithebarnlaw02_KindsOrder.bits3 (fun HT_ HW_ => ?_)
    generalize w13.drew = w14 at BK145 BK146 BK147 HB hHeld ⊢
    refine take_ (i := 0) (N := some 13) (v := ?_) (a' := ?_) #[true, false, false, false, false, false, false, false, false, false, false, false] rfl rfl (take_ofW HT_.out HW_.out (by kernel_rfl)) (fun _ _ _ h => h) (Or.inl ⟨by rfl, ?_⟩) hHeld ?_ ?_
    rotate_left
    · rintro w' ⟨s0, s1, s2, s3, s4, s5, s6, s7, s8⟩
      go_simp
      with_reducible rfl
    rotate_left
    · simp only [Act.put, List.setIfInBounds_toArray, List.set_cons_zero, List.set_cons_succ, i64_w, i32_w]
      rfl
    refine take_ (i := 1) (N := some 14) (v := ?_) (a' := ?_) #[true, true, false, false, false, false, false, false, false, false, false, false] rfl rfl (take_ofW HT_.out HW_.out (by kernel_rfl)) (fun _ _ _ h => h) (Or.inl ⟨by rfl, ?_⟩) hHeld ?_ ?_
    rotate_left
    · rintro w' ⟨s0, s1, s2, s3, s4, s5, s6, s7, s8⟩
      go_simp
      with_reducible rfl
    rotate_left
    · simp only [Act.put, List.setIfInBounds_toArray, List.set_cons_zero, List.set_cons_succ, i64_w, i32_w]
      rfl
    refine take_ (i := 3) (N := some 16) (v := ?_) (a' := ?_) #[true, true, false, true, false, false, false, false, false, false, false, false] rfl rfl (take_ofW HT_.out HW_.out (by kernel_rfl)) (fun _ _ _ h => h) (Or.inl ⟨by rfl, ?_⟩) hHeld ?_ ?_
    rotate_left
    · rintro w' ⟨s0, s1, s2, s3, s4, s5, s6, s7, s8⟩
      go_simp
      with_reducible rfl
    rotate_left
    · simp only [Act.put, List.setIfInBounds_toArray, List.set_cons_zero, List.set_cons_succ, i64_w, i32_w]
      rfl
    refine take_ (i := 4) (N := some 17) (v := ?_) (a' := ?_) #[true, true, false, true, true, false, false, false, false, false, false, false] rfl rfl (take_ofW HT_.out HW_.out (by kernel_rfl)) (fun _ _ _ h => h) (Or.inl ⟨by rfl, ?_⟩) hHeld ?_ ?_
    rotate_left
    · rintro w' ⟨s0, s1, s2, s3, s4, s5, s6, s7, s8⟩
      go_simp
      with_reducible rfl
    rotate_left
    · simp only [Act.put, List.setIfInBounds_toArray, List.set_cons_zero, List.set_cons_succ, i64_w, i32_w]
      rfl
    refine take_ (i := 6) (N := some 19) (v := ?_) (a' := ?_) #[true, true, false, true, true, false, true, false, false, false, false, false] rfl rfl (take_ofW HT_.out HW_.out (by kernel_rfl)) (fun _ _ _ h => h) (Or.inl ⟨by rfl, ?_⟩) hHeld ?_ ?_
    rotate_left
    · rintro w' ⟨s0, s1, s2, s3, s4, s5, s6, s7, s8⟩
      go_simp
      with_reducible rfl
    rotate_left
    · simp only [Act.put, List.setIfInBounds_toArray, List.set_cons_zero, List.set_cons_succ, i64_w, i32_w]
      rfl
    refine take_ (i := 7) (N := some 20) (v := ?_) (a' := ?_) #[true, true, false, true, true, false, true, true, false, false, false, false] rfl rfl (take_ofW HT_.out HW_.out (by kernel_rfl)) (fun _ _ _ h => h) (Or.inl ⟨by rfl, ?_⟩) hHeld ?_ ?_
    rotate_left
    · rintro w' ⟨s0, s1, s2, s3, s4, s5, s6, s7, s8⟩
      go_simp
      with_reducible rfl
    rotate_left
    · simp only [Act.put, List.setIfInBounds_toArray, List.set_cons_zero, List.set_cons_succ, i64_w, i32_w]
      rfl
    refine one_ (i := 2) (N := some 15) #[true, true, true, true, true, false, true, true, false, false, false, false] rfl rfl (one_of HT_.out (by kernel_rfl)) (by decide) (fun K hK => ?_)
    refine goes_ Try.func16 (by kernel_rfl) rfl #[.agg #[.bool a0_0, .int .i64 a0_1, .string a0_2], .agg #[.bool a1_0, .int .i64 a1_1, .string a1_2]] (by rfl) rfl rfl (by (try simp only [List.map_toArray, List.map_cons, List.map_nil]); first | done | rfl | (simp only [List.length_drop, List.length_take]; rfl)) ?_
    with_reducible refine (kinds_Compare_c.calls a0_0 a0_1 a0_2 a1_0 a1_1 a1_2 t149 _ A6.out).mono ?_
    rintro e w15 ⟨rfl, hb⟩
    refine ⟨_, rfl, ?_⟩
    have n0_ := Aside0.mk (blk_below (g := gb145) (o := .cells #[.bool a0_0, .int .i64 a0_1, .string a0_2] 23 (0, 0)) (by (with_reducible repeat (first | refine blk_drewN ?_ _ | refine blk_drew ?_ | refine blk_alloc ?_ _)); exact BK145.out) hb)
    have n1_ := Aside0.mk (blk_below (g := gb146) (o := .cells #[.bool a1_0, .int .i64 a1_1, .string a1_2] 23 (0, 0)) (by (with_reducible repeat (first | refine blk_drewN ?_ _ | refine blk_drew ?_ | refine blk_alloc ?_ _)); exact BK146.out) hb)
    have n2_ := Aside0.mk (blk_below (g := gb147) (o := .cells #[.bool a2_0, .int .i64 a2_1, .string a2_2] 23 (0, 0)) (by (with_reducible repeat (first | refine blk_drewN ?_ _ | refine blk_drew ?_ | refine blk_alloc ?_ _)); exact BK147.out) hb)
    have n3_ := Aside0.mk (below_step (by repeat (first | (with_reducible first | exact HB.out | apply below_alloc | apply pw_below_drewN | apply below_drew1 | refine below_set ?_ GE145.out | refine below_set ?_ GE146.out | refine below_set ?_ GE147.out) | exact HB.out)) hb)
    clear BK145
    clear BK146
    clear BK147
    clear HB
    have BK145 := n0_
    have BK146 := n1_
    have BK147 := n2_
    have HB := n3_
    clear n0_ n1_ n2_ n3_
    (try clear hb)
    (try clear hb2)
    (try clear hk)
    (try clear hi)
    refine hK.out _ _ ⟨(blk_cell BK145.out 0).trans rfl, (blk_cell BK145.out 1).trans rfl, (blk_cell BK145.out 2).trans rfl, (blk_cell BK146.out 0).trans rfl, (blk_cell BK146.out 1).trans rfl, (blk_cell BK146.out 2).trans rfl, (blk_cell BK147.out 0).trans rfl, (blk_cell BK147.out 1).trans rfl, (blk_cell BK147.out 2).trans rfl⟩ (fun hHeld => ?_)
    clear hK K
    refine norm_ (a' := ?_) ?_ ?_
    rotate_left
    · show Act.put _ (some 15) _ = _
      simp only [Act.put, List.setIfInBounds_toArray, List.set_cons_zero, List.set_cons_succ, i64_w, i32_w]
      rfl
    refine one_ (i := 5) (N := some 18) #[true, true, true, true, true, true, true, true, false, false, false, false] rfl rfl (one_of HT_.out (by kernel_rfl)) (by decide) (fun K hK => ?_)
    refine goes_ Try.func16 (by kernel_rfl) rfl #[.agg #[.bool a1_0, .int .i64 a1_1, .string a1_2], .agg #[.bool a2_0, .int .i64 a2_1, .string a2_2]] (by rfl) rfl rfl (by (try simp only [List.map_toArray, List.map_cons, List.map_nil]); first | done | rfl | (simp only [List.length_drop, List.length_take]; rfl)) ?_
    with_reducible refine (kinds_Compare_c.calls a1_0 a1_1 a1_2 a2_0 a2_1 a2_2 t150 _ A7.out).mono ?_
    rintro e w16 ⟨rfl, hb⟩
    refine ⟨_, rfl, ?_⟩
    have n0_ := Aside0.mk (blk_below (g := gb145) (o := .cells #[.bool a0_0, .int .i64 a0_1, .string a0_2] 23 (0, 0)) (by (with_reducible repeat (first | refine blk_drewN ?_ _ | refine blk_drew ?_ | refine blk_alloc ?_ _)); exact BK145.out) hb)
    have n1_ := Aside0.mk (blk_below (g := gb146) (o := .cells #[.bool a1_0, .int .i64 a1_1, .string a1_2] 23 (0, 0)) (by (with_reducible repeat (first | refine blk_drewN ?_ _ | refine blk_drew ?_ | refine blk_alloc ?_ _)); exact BK146.out) hb)
    have n2_ := Aside0.mk (blk_below (g := gb147) (o := .cells #[.bool a2_0, .int .i64 a2_1, .string a2_2] 23 (0, 0)) (by (with_reducible repeat (first | refine blk_drewN ?_ _ | refine blk_drew ?_ | refine blk_alloc ?_ _)); exact BK147.out) hb)
    have n3_ := Aside0.mk (below_step (by repeat (first | (with_reducible first | exact HB.out | apply below_alloc | apply pw_below_drewN | apply below_drew1 | refine below_set ?_ GE145.out | refine below_set ?_ GE146.out | refine below_set ?_ GE147.out) | exact HB.out)) hb)
    clear BK145
    clear BK146
    clear BK147
    clear HB
    have BK145 := n0_
    have BK146 := n1_
    have BK147 := n2_
    have HB := n3_
    clear n0_ n1_ n2_ n3_
    (try clear hb)
    (try clear hb2)
    (try clear hk)
    (try clear hi)
    refine hK.out _ _ ⟨(blk_cell BK145.out 0).trans rfl, (blk_cell BK145.out 1).trans rfl, (blk_cell BK145.out 2).trans rfl, (blk_cell BK146.out 0).trans rfl, (blk_cell BK146.out 1).trans rfl, (blk_cell BK146.out 2).trans rfl, (blk_cell BK147.out 0).trans rfl, (blk_cell BK147.out 1).trans rfl, (blk_cell BK147.out 2).trans rfl⟩ (fun hHeld => ?_)
    clear hK K
    refine norm_ (a' := ?_) ?_ ?_
    rotate_left
    · show Act.put _ (some 18) _ = _
      simp only [Act.put, List.setIfInBounds_toArray, List.set_cons_zero, List.set_cons_succ, i64_w, i32_w]
      rfl
    refine one_ (i := 8) (N := some 21) #[true, true, true, true, true, true, true, true, true, false, false, false] rfl rfl (one_of HT_.out (by kernel_rfl)) (by decide) (fun K hK => ?_)
    refine goes_ Try.func16 (by kernel_rfl) rfl #[.agg #[.bool a0_0, .int .i64 a0_1, .string a0_2], .agg #[.bool a2_0, .int .i64 a2_1, .string a2_2]] (by rfl) rfl rfl (by (try simp only [List.map_toArray, List.map_cons, List.map_nil]); first | done | rfl | (simp only [List.length_drop, List.length_take]; rfl)) ?_
    with_reducible refine (kinds_Compare_c.calls a0_0 a0_1 a0_2 a2_0 a2_1 a2_2 t151 _ A8.out).mono ?_
    rintro e w17 ⟨rfl, hb⟩
    refine ⟨_, rfl, ?_⟩
    have n0_ := Aside0.mk (blk_below (g := gb145) (o := .cells #[.bool a0_0, .int .i64 a0_1, .string a0_2] 23 (0, 0)) (by (with_reducible repeat (first | refine blk_drewN ?_ _ | refine blk_drew ?_ | refine blk_alloc ?_ _)); exact BK145.out) hb)
    have n1_ := Aside0.mk (blk_below (g := gb146) (o := .cells #[.bool a1_0, .int .i64 a1_1, .string a1_2] 23 (0, 0)) (by (with_reducible repeat (first | refine blk_drewN ?_ _ | refine blk_drew ?_ | refine blk_alloc ?_ _)); exact BK146.out) hb)
    have n2_ := Aside0.mk (blk_below (g := gb147) (o := .cells #[.bool a2_0, .int .i64 a2_1, .string a2_2] 23 (0, 0)) (by (with_reducible repeat (first | refine blk_drewN ?_ _ | refine blk_drew ?_ | refine blk_alloc ?_ _)); exact BK147.out) hb)
    have n3_ := Aside0.mk (below_step (by repeat (first | (with_reducible first | exact HB.out | apply below_alloc | apply pw_below_drewN | apply below_drew1 | refine below_set ?_ GE145.out | refine below_set ?_ GE146.out | refine below_set ?_ GE147.out) | exact HB.out)) hb)
    clear BK145
    clear BK146
    clear BK147
    clear HB
    have BK145 := n0_
    have BK146 := n1_
    have BK147 := n2_
    have HB := n3_
    clear n0_ n1_ n2_ n3_
    (try clear hb)
    (try clear hb2)
    (try clear hk)
    (try clear hi)
    refine hK.out _ _ ⟨(blk_cell BK145.out 0).trans rfl, (blk_cell BK145.out 1).trans rfl, (blk_cell BK145.out 2).trans rfl, (blk_cell BK146.out 0).trans rfl, (blk_cell BK146.out 1).trans rfl, (blk_cell BK146.out 2).trans rfl, (blk_cell BK147.out 0).trans rfl, (blk_cell BK147.out 1).trans rfl, (blk_cell BK147.out 2).trans rfl⟩ (fun hHeld => ?_)
    clear hK K
    refine norm_ (a' := ?_) ?_ ?_
    rotate_left
    · show Act.put _ (some 21) _ = _
      simp only [Act.put, List.setIfInBounds_toArray, List.set_cons_zero, List.set_cons_succ, i64_w, i32_w]
      rfl
    refine pure_ (i := 9) (N := some 7) (v := ?_) (a' := ?_) #[true, true, true, true, true, true, true, true, true, true, false, false] rfl rfl (any_of HT_.out (by kernel_rfl)) (fun _ _ _ h => h) (Or.inl ⟨by rfl, ?_⟩) ?_ ?_
    rotate_left
    · intro w'
      go_simp
      with_reducible rfl
    rotate_left
    · simp only [Act.put, List.setIfInBounds_toArray, List.set_cons_zero, List.set_cons_succ, i64_w, i32_w]
      rfl
    refine pure_ (i := 10) (N := some 8) (v := ?_) (a' := ?_) #[true, true, true, true, true, true, true, true, true, true, true, false] rfl rfl (any_of HT_.out (by kernel_rfl)) (fun _ _ _ h => h) (Or.inl ⟨by rfl, ?_⟩) ?_ ?_
    rotate_left
    · intro w'
      go_simp
      with_reducible rfl
    rotate_left
    · simp only [Act.put, List.setIfInBounds_toArray, List.set_cons_zero, List.set_cons_succ, i64_w, i32_w]
      rfl
    refine pure_ (i := 11) (N := some 9) (v := ?_) (a' := ?_) #[true, true, true, true, true, true, true, true, true, true, true, true] rfl rfl (any_of HT_.out (by kernel_rfl)) (fun _ _ _ h => h) (Or.inl ⟨by rfl, ?_⟩) ?_ ?_
    rotate_left
    · intro w'
      go_simp
      with_reducible rfl
    rotate_left
    · simp only [Act.put, List.setIfInBounds_toArray, List.set_cons_zero, List.set_cons_succ, i64_w, i32_w]
      rfl
    refine done_ (done_of HT_.out (by kernel_rfl)) ?_
    go_upto_region 4 with (fail)
    go_cut [10] (fun v10 wc => ∃ (kq : Nat) (x10_8 : Bool), v10 = .bool x10_8 ∧ Aside0 (tithebarnlaw02_KindsOrder.j0 kq t149 t150 t151 x10_8 a0_0 a0_1 a0_2 a1_0 a1_1 a1_2 = some r) ∧ Aside0 (kq ≤ k) ∧ Aside0 (wc.heap[gb145]? = some (.cells #[.bool a0_0, .int .i64 a0_1, .string a0_2] 23 (0, 0))) ∧ Aside0 (wc.heap[gb146]? = some (.cells #[.bool a1_0, .int .i64 a1_1, .string a1_2] 23 (0, 0))) ∧ Aside0 (wc.heap[gb147]? = some (.cells #[.bool a2_0, .int .i64 a2_1, .string a2_2] 23 (0, 0))) ∧ Aside0 (Below w.heap.size w wc))
    case first =>
      have H := HC9.out
      clear HC9
      by_cases c18 : a0_0 = true
      · subst c18
        have H1 : (if a1_0 = true then (tithebarnlaw02_KindsOrder.j0 k t149 t150 t151 true true a0_1 a0_2 a1_0 a1_1 a1_2) else (tithebarnlaw02_KindsOrder.j0 k t149 t150 t151 false true a0_1 a0_2 a1_0 a1_1 a1_2)) = some r := by rw [if_pos rfl] at H; exact H
        clear H
        have H := H1
        clear H1
        by_cases c19 : a1_0 = true
        · subst c19
          have H1 : (tithebarnlaw02_KindsOrder.j0 k t149 t150 t151 true true a0_1 a0_2 true a1_1 a1_2) = some r := by rw [if_pos rfl] at H; exact H
          clear H
          have H := H1
          clear H1
          have H' := Aside0.mk H
          clear H
          have hnb20 := NB145_146.out
          have hnc20 := NB146_145.out
          have hnb21 := NB145_147.out
          have hnc21 := NB147_145.out
          have hcz22_0 : w17.cell? ⟨gb145, 0, none⟩ = some (.bool true) := (blk_cell BK145.out 0).trans rfl
          have hcz22_1 : w17.cell? ⟨gb145, 1, none⟩ = some (.int .i64 a0_1) := (blk_cell BK145.out 1).trans rfl
          have hcz22_2 : w17.cell? ⟨gb145, 2, none⟩ = some (.string a0_2) := (blk_cell BK145.out 2).trans rfl
          have hfz22_0 := blk_frozen BK145.out 0
          have hfz22_1 := blk_frozen BK145.out 1
          have hfz22_2 := blk_frozen BK145.out 2
          have hnb23 := NB146_147.out
          have hnc23 := NB147_146.out
          have hcz24_0 : w17.cell? ⟨gb146, 0, none⟩ = some (.bool true) := (blk_cell BK146.out 0).trans rfl
          have hcz24_1 : w17.cell? ⟨gb146, 1, none⟩ = some (.int .i64 a1_1) := (blk_cell BK146.out 1).trans rfl
          have hcz24_2 : w17.cell? ⟨gb146, 2, none⟩ = some (.string a1_2) := (blk_cell BK146.out 2).trans rfl
          have hfz24_0 := blk_frozen BK146.out 0
          have hfz24_1 := blk_frozen BK146.out 1
          have hfz24_2 := blk_frozen BK146.out 2
          go_wp2
          go_meet
          case rel => exact ⟨_, (true), (by first | rfl | (simp; done) | (simp [*]; done)), H', ⟨by first | omega | exact Nat.le_refl _⟩, ⟨by (with_reducible repeat (first | refine blk_drewN ?_ _ | refine blk_drew ?_ | refine blk_alloc ?_ _)); exact BK145.out⟩, ⟨by (with_reducible repeat (first | refine blk_drewN ?_ _ | refine blk_drew ?_ | refine blk_alloc ?_ _)); exact BK146.out⟩, ⟨by (with_reducible repeat (first | refine blk_drewN ?_ _ | refine blk_drew ?_ | refine blk_alloc ?_ _)); exact BK147.out⟩, ⟨by repeat (first | (with_reducible first | exact HB.out | apply below_alloc | apply pw_below_drewN | apply below_drew1 | refine below_set ?_ GE145.out | refine below_set ?_ GE146.out | refine below_set ?_ GE147.out) | exact HB.out)⟩⟩
        · replace c19 := Bool.eq_false_iff.mpr c19
          subst c19
          have H1 : (tithebarnlaw02_KindsOrder.j0 k t149 t150 t151 false true a0_1 a0_2 false a1_1 a1_2) = some r := by rw [if_neg (show ¬ (false = true) by decide)] at H; exact H
          clear H
          have H := H1
          clear H1
          have H' := Aside0.mk H
          clear H
          have hnb25 := NB145_146.out
          have hnc25 := NB146_145.out
          have hnb26 := NB145_147.out
          have hnc26 := NB147_145.out
          have hcz27_0 : w17.cell? ⟨gb145, 0, none⟩ = some (.bool true) := (blk_cell BK145.out 0).trans rfl
          have hcz27_1 : w17.cell? ⟨gb145, 1, none⟩ = some (.int .i64 a0_1) := (blk_cell BK145.out 1).trans rfl
          have hcz27_2 : w17.cell? ⟨gb145, 2, none⟩ = some (.string a0_2) := (blk_cell BK145.out 2).trans rfl
          have hfz27_0 := blk_frozen BK145.out 0
          have hfz27_1 := blk_frozen BK145.out 1
          have hfz27_2 := blk_frozen BK145.out 2
          have hnb28 := NB146_147.out
          have hnc28 := NB147_146.out
          have hcz29_0 : w17.cell? ⟨gb146, 0, none⟩ = some (.bool false) := (blk_cell BK146.out 0).trans rfl
          have hcz29_1 : w17.cell? ⟨gb146, 1, none⟩ = some (.int .i64 a1_1) := (blk_cell BK146.out 1).trans rfl
          have hcz29_2 : w17.cell? ⟨gb146, 2, none⟩ = some (.string a1_2) := (blk_cell BK146.out 2).trans rfl
          have hfz29_0 := blk_frozen BK146.out 0
          have hfz29_1 := blk_frozen BK146.out 1
          have hfz29_2 := blk_frozen BK146.out 2
          go_wp2
          go_meet
          case rel => exact ⟨_, (false), (by first | rfl | (simp; done) | (simp [*]; done)), H', ⟨by first | omega | exact Nat.le_refl _⟩, ⟨by (with_reducible repeat (first | refine blk_drewN ?_ _ | refine blk_drew ?_ | refine blk_alloc ?_ _)); exact BK145.out⟩, ⟨by (with_reducible repeat (first | refine blk_drewN ?_ _ | refine blk_drew ?_ | refine blk_alloc ?_ _)); exact BK146.out⟩, ⟨by (with_reducible repeat (first | refine blk_drewN ?_ _ | refine blk_drew ?_ | refine blk_alloc ?_ _)); exact BK147.out⟩, ⟨by repeat (first | (with_reducible first | exact HB.out | apply below_alloc | apply pw_below_drewN | apply below_drew1 | refine below_set ?_ GE145.out | refine below_set ?_ GE146.out | refine below_set ?_ GE147.out) | exact HB.out)⟩⟩
      · replace c18 := Bool.eq_false_iff.mpr c18
        subst c18
        have H1 : (if a1_0 = true then (tithebarnlaw02_KindsOrder.j0 k t149 t150 t151 false false a0_1 a0_2 a1_0 a1_1 a1_2) else (if a0_1 = a1_1 then (tithebarnlaw02_KindsOrder.j0 k t149 t150 t151 (a0_2.toList == a1_2.toList) false a0_1 a0_2 a1_0 a1_1 a1_2) else (tithebarnlaw02_KindsOrder.j0 k t149 t150 t151 false false a0_1 a0_2 a1_0 a1_1 a1_2))) = some r := by rw [if_neg (show ¬ (false = true) by decide)] at H; exact H
        clear H
        have H := H1
        clear H1
        by_cases c30 : a1_0 = true
        · subst c30
          have H1 : (tithebarnlaw02_KindsOrder.j0 k t149 t150 t151 false false a0_1 a0_2 true a1_1 a1_2) = some r := by rw [if_pos rfl] at H; exact H
          clear H
          have H := H1
          clear H1
          have H' := Aside0.mk H
          clear H
          have hnb31 := NB145_146.out
          have hnc31 := NB146_145.out
          have hnb32 := NB145_147.out
          have hnc32 := NB147_145.out
          have hcz33_0 : w17.cell? ⟨gb145, 0, none⟩ = some (.bool false) := (blk_cell BK145.out 0).trans rfl
          have hcz33_1 : w17.cell? ⟨gb145, 1, none⟩ = some (.int .i64 a0_1) := (blk_cell BK145.out 1).trans rfl
          have hcz33_2 : w17.cell? ⟨gb145, 2, none⟩ = some (.string a0_2) := (blk_cell BK145.out 2).trans rfl
          have hfz33_0 := blk_frozen BK145.out 0
          have hfz33_1 := blk_frozen BK145.out 1
          have hfz33_2 := blk_frozen BK145.out 2
          have hnb34 := NB146_147.out
          have hnc34 := NB147_146.out
          have hcz35_0 : w17.cell? ⟨gb146, 0, none⟩ = some (.bool true) := (blk_cell BK146.out 0).trans rfl
          have hcz35_1 : w17.cell? ⟨gb146, 1, none⟩ = some (.int .i64 a1_1) := (blk_cell BK146.out 1).trans rfl
          have hcz35_2 : w17.cell? ⟨gb146, 2, none⟩ = some (.string a1_2) := (blk_cell BK146.out 2).trans rfl
          have hfz35_0 := blk_frozen BK146.out 0
          have hfz35_1 := blk_frozen BK146.out 1
          have hfz35_2 := blk_frozen BK146.out 2
          go_wp2
          go_meet
          case rel => exact ⟨_, (false), (by first | rfl | (simp; done) | (simp [*]; done)), H', ⟨by first | omega | exact Nat.le_refl _⟩, ⟨by (with_reducible repeat (first | refine blk_drewN ?_ _ | refine blk_drew ?_ | refine blk_alloc ?_ _)); exact BK145.out⟩, ⟨by (with_reducible repeat (first | refine blk_drewN ?_ _ | refine blk_drew ?_ | refine blk_alloc ?_ _)); exact BK146.out⟩, ⟨by (with_reducible repeat (first | refine blk_drewN ?_ _ | refine blk_drew ?_ | refine blk_alloc ?_ _)); exact BK147.out⟩, ⟨by repeat (first | (with_reducible first | exact HB.out | apply below_alloc | apply pw_below_drewN | apply below_drew1 | refine below_set ?_ GE145.out | refine below_set ?_ GE146.out | refine below_set ?_ GE147.out) | exact HB.out)⟩⟩
        · replace c30 := Bool.eq_false_iff.mpr c30
          subst c30
          have H1 : (if a0_1 = a1_1 then (tithebarnlaw02_KindsOrder.j0 k t149 t150 t151 (a0_2.toList == a1_2.toList) false a0_1 a0_2 false a1_1 a1_2) else (tithebarnlaw02_KindsOrder.j0 k t149 t150 t151 false false a0_1 a0_2 false a1_1 a1_2)) = some r := by rw [if_neg (show ¬ (false = true) by decide)] at H; exact H
          clear H
          have H := H1
          clear H1
          by_cases c36 : a0_1 = a1_1
          · rw [if_pos c36] at H
            have c36b0 : (a0_1 == a1_1) = true := beq_iff_eq.mpr c36
            have c36b1 : (a0_1 != a1_1) = false := bne_eq_false_iff_eq.mpr c36
            clear c36
            (first | rw [c36b0] | (simp only [i64_w, i32_w]; rw [c36b0]) | skip)
            have H' := Aside0.mk H
            clear H
            have hnb37 := NB145_146.out
            have hnc37 := NB146_145.out
            have hnb38 := NB145_147.out
            have hnc38 := NB147_145.out
            have hcz39_0 : w17.cell? ⟨gb145, 0, none⟩ = some (.bool false) := (blk_cell BK145.out 0).trans rfl
            have hcz39_1 : w17.cell? ⟨gb145, 1, none⟩ = some (.int .i64 a0_1) := (blk_cell BK145.out 1).trans rfl
            have hcz39_2 : w17.cell? ⟨gb145, 2, none⟩ = some (.string a0_2) := (blk_cell BK145.out 2).trans rfl
            have hfz39_0 := blk_frozen BK145.out 0
            have hfz39_1 := blk_frozen BK145.out 1
            have hfz39_2 := blk_frozen BK145.out 2
            have hnb40 := NB146_147.out
            have hnc40 := NB147_146.out
            have hcz41_0 : w17.cell? ⟨gb146, 0, none⟩ = some (.bool false) := (blk_cell BK146.out 0).trans rfl
            have hcz41_1 : w17.cell? ⟨gb146, 1, none⟩ = some (.int .i64 a1_1) := (blk_cell BK146.out 1).trans rfl
            have hcz41_2 : w17.cell? ⟨gb146, 2, none⟩ = some (.string a1_2) := (blk_cell BK146.out 2).trans rfl
            have hfz41_0 := blk_frozen BK146.out 0
            have hfz41_1 := blk_frozen BK146.out 1
            have hfz41_2 := blk_frozen BK146.out 2
            go_wp2
            go_meet
            case rel => exact ⟨_, ((a0_2.toList == a1_2.toList)), (by first | rfl | (simp; done) | (simp [*]; done)), H', ⟨by first | omega | exact Nat.le_refl _⟩, ⟨by (with_reducible repeat (first | refine blk_drewN ?_ _ | refine blk_drew ?_ | refine blk_alloc ?_ _)); exact BK145.out⟩, ⟨by (with_reducible repeat (first | refine blk_drewN ?_ _ | refine blk_drew ?_ | refine blk_alloc ?_ _)); exact BK146.out⟩, ⟨by (with_reducible repeat (first | refine blk_drewN ?_ _ | refine blk_drew ?_ | refine blk_alloc ?_ _)); exact BK147.out⟩, ⟨by repeat (first | (with_reducible first | exact HB.out | apply below_alloc | apply pw_below_drewN | apply below_drew1 | refine below_set ?_ GE145.out | refine below_set ?_ GE146.out | refine below_set ?_ GE147.out) | exact HB.out)⟩⟩
          · rw [if_neg c36] at H
            have c36b0 : (a0_1 == a1_1) = false := beq_eq_false_iff_ne.mpr c36
            have c36b1 : (a0_1 != a1_1) = true := bne_iff_ne.mpr c36
            (first | rw [c36b0] | (simp only [i64_w, i32_w]; rw [c36b0]) | skip)
            have H' := Aside0.mk H
            clear H
            have hnb42 := NB145_146.out
            have hnc42 := NB146_145.out
            have hnb43 := NB145_147.out
            have hnc43 := NB147_145.out
            have hcz44_0 : w17.cell? ⟨gb145, 0, none⟩ = some (.bool false) := (blk_cell BK145.out 0).trans rfl
            have hcz44_1 : w17.cell? ⟨gb145, 1, none⟩ = some (.int .i64 a0_1) := (blk_cell BK145.out 1).trans rfl
            have hcz44_2 : w17.cell? ⟨gb145, 2, none⟩ = some (.string a0_2) := (blk_cell BK145.out 2).trans rfl
            have hfz44_0 := blk_frozen BK145.out 0
            have hfz44_1 := blk_frozen BK145.out 1
            have hfz44_2 := blk_frozen BK145.out 2
            have hnb45 := NB146_147.out
            have hnc45 := NB147_146.out
            have hcz46_0 : w17.cell? ⟨gb146, 0, none⟩ = some (.bool false) := (blk_cell BK146.out 0).trans rfl
            have hcz46_1 : w17.cell? ⟨gb146, 1, none⟩ = some (.int .i64 a1_1) := (blk_cell BK146.out 1).trans rfl
            have hcz46_2 : w17.cell? ⟨gb146, 2, none⟩ = some (.string a1_2) := (blk_cell BK146.out 2).trans rfl
            have hfz46_0 := blk_frozen BK146.out 0
            have hfz46_1 := blk_frozen BK146.out 1
            have hfz46_2 := blk_frozen BK146.out 2
            go_wp2
            go_meet
            case rel => exact ⟨_, (false), (by first | rfl | (simp; done) | (simp [*]; done)), H', ⟨by first | omega | exact Nat.le_refl _⟩, ⟨by (with_reducible repeat (first | refine blk_drewN ?_ _ | refine blk_drew ?_ | refine blk_alloc ?_ _)); exact BK145.out⟩, ⟨by (with_reducible repeat (first | refine blk_drewN ?_ _ | refine blk_drew ?_ | refine blk_alloc ?_ _)); exact BK146.out⟩, ⟨by (with_reducible repeat (first | refine blk_drewN ?_ _ | refine blk_drew ?_ | refine blk_alloc ?_ _)); exact BK147.out⟩, ⟨by repeat (first | (with_reducible first | exact HB.out | apply below_alloc | apply pw_below_drewN | apply below_drew1 | refine below_set ?_ GE145.out | refine below_set ?_ GE146.out | refine below_set ?_ GE147.out) | exact HB.out)⟩⟩
    case rest =>
      clear HC9
      try clear c1
      try clear c2
      try clear p2
      try clear c3
      try clear c4
      try clear c5
      try clear c15
      try clear c16
      try clear c18
      try clear c19
      try clear c20
      try clear c21
      try clear c23
      try clear c25
      try clear c26
      try clear c28
      try clear c30
      try clear c31
      try clear c32
      try clear c34
      try clear c36
      try clear c36b0
      try clear c36b1
      try clear c37
      try clear c38
      try clear c40
      try clear c42
      try clear c43
      try clear c45
      try clear hcz22_0
      try clear hcz22_1
      try clear hcz22_2
      try clear hcz24_0
      try clear hcz24_1
      try clear hcz24_2
      try clear hcz27_0
      try clear hcz27_1
      try clear hcz27_2
      try clear hcz29_0
      try clear hcz29_1
      try clear hcz29_2
      try clear hcz33_0
      try clear hcz33_1
      try clear hcz33_2
      try clear hcz35_0
      try clear hcz35_1
      try clear hcz35_2
      try clear hcz39_0
      try clear hcz39_1
      try clear hcz39_2
      try clear hcz41_0
      try clear hcz41_1
      try clear hcz41_2
      try clear hcz44_0
      try clear hcz44_1
      try clear hcz44_2
      try clear hcz46_0
      try clear hcz46_1
      try clear hcz46_2
      try clear hfz22_0
      try clear hfz22_1
      try clear hfz22_2
      try clear hfz24_0
      try clear hfz24_1
      try clear hfz24_2
      try clear hfz27_0
      try clear hfz27_1
      try clear hfz27_2
      try clear hfz29_0
      try clear hfz29_1
      try clear hfz29_2
      try clear hfz33_0
      try clear hfz33_1
      try clear hfz33_2
      try clear hfz35_0
      try clear hfz35_1
      try clear hfz35_2
      try clear hfz39_0
      try clear hfz39_1
      try clear hfz39_2
      try clear hfz41_0
      try clear hfz41_1
      try clear hfz41_2
      try clear hfz44_0
      try clear hfz44_1
      try clear hfz44_2
      try clear hfz46_0
      try clear hfz46_1
      try clear hfz46_2
      obtain ⟨kq, x10_8, rfl, HA, HJ8, BK145, BK146, BK147, HB⟩ := hcut
      cases kq with
      | zero => exact absurd HA.out (by simp [tithebarnlaw02_KindsOrder.j0])
      | succ kj8 =>
        have H := HA.out
        clear HA
        simp only [tithebarnlaw02_KindsOrder.j0] at H
        replace H := Option.bind_eq_some_iff.mp H
        obtain ⟨t152, A470, H⟩ := H
        replace H : (if t152 = (wrap64 (-t149)) then (if ((t149 == 0) == x10_8) = true then (if t149 > 0 then (if t149 ≥ 0 then (if t149 ≥ (-1) then (some (decide (t149 ≤ 1))) else (some false)) else (if t150 > 0 then (if t149 ≥ (-1) then (some (decide (t149 ≤ 1))) else (some false)) else (if t151 < 0 then (if t149 ≥ (-1) then (some (decide (t149 ≤ 1))) else (some false)) else (some false)))) else (if t150 > 0 then (if t149 ≥ 0 then (if t150 ≥ 0 then (if t149 ≥ (-1) then (some (decide (t149 ≤ 1))) else (some false)) else (if t151 < 0 then (if t149 ≥ (-1) then (some (decide (t149 ≤ 1))) else (some false)) else (some false))) else (if t150 ≥ 0 then (if t149 ≥ (-1) then (some (decide (t149 ≤ 1))) else (some false)) else (if t151 < 0 then (if t149 ≥ (-1) then (some (decide (t149 ≤ 1))) else (some false)) else (some false)))) else (if t151 ≤ 0 then (if t149 ≥ 0 then (if t150 ≥ 0 then (if t149 ≥ (-1) then (some (decide (t149 ≤ 1))) else (some false)) else (if t151 < 0 then (if t149 ≥ (-1) then (some (decide (t149 ≤ 1))) else (some false)) else (some false))) else (if t151 < 0 then (if t150 ≥ 0 then (if t149 ≥ (-1) then (some (decide (t149 ≤ 1))) else (some false)) else (if t149 ≥ (-1) then (some (decide (t149 ≤ 1))) else (some false))) else (some false))) else (some false)))) else (some false)) else (some false)) = some r := H
        have A47 := Aside0.mk A470
        clear A470
        by_cases c48 : t152 = (wrap64 (-t149))
        · rw [if_pos c48] at H
          have c48b0 : (t152 == (wrap64 (-t149))) = true := beq_iff_eq.mpr c48
          have c48b1 : (t152 != (wrap64 (-t149))) = false := bne_eq_false_iff_eq.mpr c48
          clear c48
          by_cases c49 : ((t149 == 0) == x10_8) = true
          · rw [if_pos c49] at H
            have c49b0 : ((t149 == 0) == x10_8) = true := c49
            (try (have c49b1 : decide ((t149 == 0) = x10_8) = true := by simpa using c49))
            (try (have c49b2 : ((t149 == 0) == x10_8) = true := by simpa using c49))
            clear c49
            by_cases c50 : t149 > 0
            · rw [if_pos c50] at H
              have c50b0 : decide (0 < t149) = true := decide_eq_true c50
              clear c50
              by_cases c51 : t149 ≥ 0
              · rw [if_pos c51] at H
                have c51b0 : decide (0 ≤ t149) = true := decide_eq_true c51
                clear c51
                by_cases c52 : t149 ≥ (-1)
                · rw [if_pos c52] at H
                  have c52b0 : decide ((-1) ≤ t149) = true := decide_eq_true c52
                  clear c52
                  obtain rfl := Option.some.inj H
                  have hnb53 := NB146_145.out
                  have hnc53 := NB145_146.out
                  have hnb54 := NB146_147.out
                  have hnc54 := NB147_146.out
                  have hcz55_0 : wc.cell? ⟨gb146, 0, none⟩ = some (.bool a1_0) := (blk_cell BK146.out 0).trans rfl
                  have hcz55_1 : wc.cell? ⟨gb146, 1, none⟩ = some (.int .i64 a1_1) := (blk_cell BK146.out 1).trans rfl
                  have hcz55_2 : wc.cell? ⟨gb146, 2, none⟩ = some (.string a1_2) := (blk_cell BK146.out 2).trans rfl
                  have hfz55_0 := blk_frozen BK146.out 0
                  have hfz55_1 := blk_frozen BK146.out 1
                  have hfz55_2 := blk_frozen BK146.out 2
                  have hnb56 := NB145_147.out
                  have hnc56 := NB147_145.out
                  have hcz57_0 : wc.cell? ⟨gb145, 0, none⟩ = some (.bool a0_0) := (blk_cell BK145.out 0).trans rfl
                  have hcz57_1 : wc.cell? ⟨gb145, 1, none⟩ = some (.int .i64 a0_1) := (blk_cell BK145.out 1).trans rfl
                  have hcz57_2 : wc.cell? ⟨gb145, 2, none⟩ = some (.string a0_2) := (blk_cell BK145.out 2).trans rfl
                  have hfz57_0 := blk_frozen BK145.out 0
                  have hfz57_1 := blk_frozen BK145.out 1
                  have hfz57_2 := blk_frozen BK145.out 2
                  go_wp2_with (first | ((with_reducible refine gate_callee (f := 16) rfl ?_); refine goesL_ (some 54) rfl rfl Try.func16 (by kernel_rfl) rfl #[.agg #[.bool a1_0, .int .i64 a1_1, .string a1_2], .agg #[.bool a0_0, .int .i64 a0_1, .string a0_2]] rfl (by (try simp only [List.map_toArray, List.map_cons, List.map_nil]); first | done | rfl | (simp only [List.length_drop, List.length_take]; rfl)) ?_; (with_reducible refine (kinds_Compare_c.calls a1_0 a1_1 a1_2 a0_0 a0_1 a0_2 t152 _ A47.out).mono ?_); rintro e w58 ⟨rfl, hb⟩; refine ⟨_, rfl, ?_⟩; have n0_ := Aside0.mk (blk_below (g := gb145) (o := .cells #[.bool a0_0, .int .i64 a0_1, .string a0_2] 23 (0, 0)) (by (with_reducible repeat (first | refine blk_drewN ?_ _ | refine blk_drew ?_ | refine blk_alloc ?_ _)); exact BK145.out) hb); have n1_ := Aside0.mk (blk_below (g := gb146) (o := .cells #[.bool a1_0, .int .i64 a1_1, .string a1_2] 23 (0, 0)) (by (with_reducible repeat (first | refine blk_drewN ?_ _ | refine blk_drew ?_ | refine blk_alloc ?_ _)); exact BK146.out) hb); have n2_ := Aside0.mk (blk_below (g := gb147) (o := .cells #[.bool a2_0, .int .i64 a2_1, .string a2_2] 23 (0, 0)) (by (with_reducible repeat (first | refine blk_drewN ?_ _ | refine blk_drew ?_ | refine blk_alloc ?_ _)); exact BK147.out) hb); have n3_ := Aside0.mk (below_step (by repeat (first | (with_reducible first | exact HB.out | apply below_alloc | apply pw_below_drewN | apply below_drew1 | refine below_set ?_ GE145.out | refine below_set ?_ GE146.out | refine below_set ?_ GE147.out) | exact HB.out)) hb); clear BK145; clear BK146; clear BK147; clear HB; have BK145 := n0_; have BK146 := n1_; have BK147 := n2_; have HB := n3_; clear n0_ n1_ n2_ n3_; (try clear hb); (try clear hb2); (try clear hk); (try clear hi)))
                  go_ret
                  exact ⟨by first | rfl | (simp [errW_none, errW_some] <;> rfl) | (simp [*, errW_none, errW_some] <;> rfl), by repeat (first | (with_reducible first | exact HB.out | apply below_alloc | apply pw_below_drewN | apply below_drew1 | refine below_set ?_ GE145.out | refine below_set ?_ GE146.out | refine below_set ?_ GE147.out) | exact HB.out)⟩
                · rw [if_neg c52] at H
                  have c52b0 : decide ((-1) ≤ t149) = false := decide_eq_false c52
                  clear c52
                  obtain rfl := Option.some.inj H
                  have hnb59 := NB146_145.out
                  have hnc59 := NB145_146.out
                  have hnb60 := NB146_147.out
                  have hnc60 := NB147_146.out
                  have hcz61_0 : wc.cell? ⟨gb146, 0, none⟩ = some (.bool a1_0) := (blk_cell BK146.out 0).trans rfl
                  have hcz61_1 : wc.cell? ⟨gb146, 1, none⟩ = some (.int .i64 a1_1) := (blk_cell BK146.out 1).trans rfl
                  have hcz61_2 : wc.cell? ⟨gb146, 2, none⟩ = some (.string a1_2) := (blk_cell BK146.out 2).trans rfl
                  have hfz61_0 := blk_frozen BK146.out 0
                  have hfz61_1 := blk_frozen BK146.out 1
                  have hfz61_2 := blk_frozen BK146.out 2
                  have hnb62 := NB145_147.out
                  have hnc62 := NB147_145.out
                  have hcz63_0 : wc.cell? ⟨gb145, 0, none⟩ = some (.bool a0_0) := (blk_cell BK145.out 0).trans rfl
                  have hcz63_1 : wc.cell? ⟨gb145, 1, none⟩ = some (.int .i64 a0_1) := (blk_cell BK145.out 1).trans rfl
                  have hcz63_2 : wc.cell? ⟨gb145, 2, none⟩ = some (.string a0_2) := (blk_cell BK145.out 2).trans rfl
                  have hfz63_0 := blk_frozen BK145.out 0
                  have hfz63_1 := blk_frozen BK145.out 1
                  have hfz63_2 := blk_frozen BK145.out 2
                  go_wp2_with (first | ((with_reducible refine gate_callee (f := 16) rfl ?_); refine goesL_ (some 54) rfl rfl Try.func16 (by kernel_rfl) rfl #[.agg #[.bool a1_0, .int .i64 a1_1, .string a1_2], .agg #[.bool a0_0, .int .i64 a0_1, .string a0_2]] rfl (by (try simp only [List.map_toArray, List.map_cons, List.map_nil]); first | done | rfl | (simp only [List.length_drop, List.length_take]; rfl)) ?_; (with_reducible refine (kinds_Compare_c.calls a1_0 a1_1 a1_2 a0_0 a0_1 a0_2 t152 _ A47.out).mono ?_); rintro e w64 ⟨rfl, hb⟩; refine ⟨_, rfl, ?_⟩; have n0_ := Aside0.mk (blk_below (g := gb145) (o := .cells #[.bool a0_0, .int .i64 a0_1, .string a0_2] 23 (0, 0)) (by (with_reducible repeat (first | refine blk_drewN ?_ _ | refine blk_drew ?_ | refine blk_alloc ?_ _)); exact BK145.out) hb); have n1_ := Aside0.mk (blk_below (g := gb146) (o := .cells #[.bool a1_0, .int .i64 a1_1, .string a1_2] 23 (0, 0)) (by (with_reducible repeat (first | refine blk_drewN ?_ _ | refine blk_drew ?_ | refine blk_alloc ?_ _)); exact BK146.out) hb); have n2_ := Aside0.mk (blk_below (g := gb147) (o := .cells #[.bool a2_0, .int .i64 a2_1, .string a2_2] 23 (0, 0)) (by (with_reducible repeat (first | refine blk_drewN ?_ _ | refine blk_drew ?_ | refine blk_alloc ?_ _)); exact BK147.out) hb); have n3_ := Aside0.mk (below_step (by repeat (first | (with_reducible first | exact HB.out | apply below_alloc | apply pw_below_drewN | apply below_drew1 | refine below_set ?_ GE145.out | refine below_set ?_ GE146.out | refine below_set ?_ GE147.out) | exact HB.out)) hb); clear BK145; clear BK146; clear BK147; clear HB; have BK145 := n0_; have BK146 := n1_; have BK147 := n2_; have HB := n3_; clear n0_ n1_ n2_ n3_; (try clear hb); (try clear hb2); (try clear hk); (try clear hi)))
                  go_ret
                  exact ⟨by first | rfl | (simp [errW_none, errW_some] <;> rfl) | (simp [*, errW_none, errW_some] <;> rfl), by repeat (first | (with_reducible first | exact HB.out | apply below_alloc | apply pw_below_drewN | apply below_drew1 | refine below_set ?_ GE145.out | refine below_set ?_ GE146.out | refine below_set ?_ GE147.out) | exact HB.out)⟩
              · rw [if_neg c51] at H
                have c51b0 : decide (0 ≤ t149) = false := decide_eq_false c51
                clear c51
                by_cases c65 : t150 > 0
                · rw [if_pos c65] at H
                  have c65b0 : decide (0 < t150) = true := decide_eq_true c65
                  clear c65
                  by_cases c66 : t149 ≥ (-1)
                  · rw [if_pos c66] at H
                    have c66b0 : decide ((-1) ≤ t149) = true := decide_eq_true c66
                    clear c66
                    obtain rfl := Option.some.inj H
                    have hnb67 := NB146_145.out
                    have hnc67 := NB145_146.out
                    have hnb68 := NB146_147.out
                    have hnc68 := NB147_146.out
                    have hcz69_0 : wc.cell? ⟨gb146, 0, none⟩ = some (.bool a1_0) := (blk_cell BK146.out 0).trans rfl
                    have hcz69_1 : wc.cell? ⟨gb146, 1, none⟩ = some (.int .i64 a1_1) := (blk_cell BK146.out 1).trans rfl
                    have hcz69_2 : wc.cell? ⟨gb146, 2, none⟩ = some (.string a1_2) := (blk_cell BK146.out 2).trans rfl
                    have hfz69_0 := blk_frozen BK146.out 0
                    have hfz69_1 := blk_frozen BK146.out 1
                    have hfz69_2 := blk_frozen BK146.out 2
                    have hnb70 := NB145_147.out
                    have hnc70 := NB147_145.out
                    have hcz71_0 : wc.cell? ⟨gb145, 0, none⟩ = some (.bool a0_0) := (blk_cell BK145.out 0).trans rfl
                    have hcz71_1 : wc.cell? ⟨gb145, 1, none⟩ = some (.int .i64 a0_1) := (blk_cell BK145.out 1).trans rfl
                    have hcz71_2 : wc.cell? ⟨gb145, 2, none⟩ = some (.string a0_2) := (blk_cell BK145.out 2).trans rfl
                    have hfz71_0 := blk_frozen BK145.out 0
                    have hfz71_1 := blk_frozen BK145.out 1
                    have hfz71_2 := blk_frozen BK145.out 2
                    go_wp2_with (first | ((with_reducible refine gate_callee (f := 16) rfl ?_); refine goesL_ (some 54) rfl rfl Try.func16 (by kernel_rfl) rfl #[.agg #[.bool a1_0, .int .i64 a1_1, .string a1_2], .agg #[.bool a0_0, .int .i64 a0_1, .string a0_2]] rfl (by (try simp only [List.map_toArray, List.map_cons, List.map_nil]); first | done | rfl | (simp only [List.length_drop, List.length_take]; rfl)) ?_; (with_reducible refine (kinds_Compare_c.calls a1_0 a1_1 a1_2 a0_0 a0_1 a0_2 t152 _ A47.out).mono ?_); rintro e w72 ⟨rfl, hb⟩; refine ⟨_, rfl, ?_⟩; have n0_ := Aside0.mk (blk_below (g := gb145) (o := .cells #[.bool a0_0, .int .i64 a0_1, .string a0_2] 23 (0, 0)) (by (with_reducible repeat (first | refine blk_drewN ?_ _ | refine blk_drew ?_ | refine blk_alloc ?_ _)); exact BK145.out) hb); have n1_ := Aside0.mk (blk_below (g := gb146) (o := .cells #[.bool a1_0, .int .i64 a1_1, .string a1_2] 23 (0, 0)) (by (with_reducible repeat (first | refine blk_drewN ?_ _ | refine blk_drew ?_ | refine blk_alloc ?_ _)); exact BK146.out) hb); have n2_ := Aside0.mk (blk_below (g := gb147) (o := .cells #[.bool a2_0, .int .i64 a2_1, .string a2_2] 23 (0, 0)) (by (with_reducible repeat (first | refine blk_drewN ?_ _ | refine blk_drew ?_ | refine blk_alloc ?_ _)); exact BK147.out) hb); have n3_ := Aside0.mk (below_step (by repeat (first | (with_reducible first | exact HB.out | apply below_alloc | apply pw_below_drewN | apply below_drew1 | refine below_set ?_ GE145.out | refine below_set ?_ GE146.out | refine below_set ?_ GE147.out) | exact HB.out)) hb); clear BK145; clear BK146; clear BK147; clear HB; have BK145 := n0_; have BK146 := n1_; have BK147 := n2_; have HB := n3_; clear n0_ n1_ n2_ n3_; (try clear hb); (try clear hb2); (try clear hk); (try clear hi)))
                    go_ret
                    exact ⟨by first | rfl | (simp [errW_none, errW_some] <;> rfl) | (simp [*, errW_none, errW_some] <;> rfl), by repeat (first | (with_reducible first | exact HB.out | apply below_alloc | apply pw_below_drewN | apply below_drew1 | refine below_set ?_ GE145.out | refine below_set ?_ GE146.out | refine below_set ?_ GE147.out) | exact HB.out)⟩
                  · rw [if_neg c66] at H
                    have c66b0 : decide ((-1) ≤ t149) = false := decide_eq_false c66
                    clear c66
                    obtain rfl := Option.some.inj H
                    have hnb73 := NB146_145.out
                    have hnc73 := NB145_146.out
                    have hnb74 := NB146_147.out
                    have hnc74 := NB147_146.out
                    have hcz75_0 : wc.cell? ⟨gb146, 0, none⟩ = some (.bool a1_0) := (blk_cell BK146.out 0).trans rfl
                    have hcz75_1 : wc.cell? ⟨gb146, 1, none⟩ = some (.int .i64 a1_1) := (blk_cell BK146.out 1).trans rfl
                    have hcz75_2 : wc.cell? ⟨gb146, 2, none⟩ = some (.string a1_2) := (blk_cell BK146.out 2).trans rfl
                    have hfz75_0 := blk_frozen BK146.out 0
                    have hfz75_1 := blk_frozen BK146.out 1
                    have hfz75_2 := blk_frozen BK146.out 2
                    have hnb76 := NB145_147.out
                    have hnc76 := NB147_145.out
                    have hcz77_0 : wc.cell? ⟨gb145, 0, none⟩ = some (.bool a0_0) := (blk_cell BK145.out 0).trans rfl
                    have hcz77_1 : wc.cell? ⟨gb145, 1, none⟩ = some (.int .i64 a0_1) := (blk_cell BK145.out 1).trans rfl
                    have hcz77_2 : wc.cell? ⟨gb145, 2, none⟩ = some (.string a0_2) := (blk_cell BK145.out 2).trans rfl
                    have hfz77_0 := blk_frozen BK145.out 0
                    have hfz77_1 := blk_frozen BK145.out 1
                    have hfz77_2 := blk_frozen BK145.out 2
                    go_wp2_with (first | ((with_reducible refine gate_callee (f := 16) rfl ?_); refine goesL_ (some 54) rfl rfl Try.func16 (by kernel_rfl) rfl #[.agg #[.bool a1_0, .int .i64 a1_1, .string a1_2], .agg #[.bool a0_0, .int .i64 a0_1, .string a0_2]] rfl (by (try simp only [List.map_toArray, List.map_cons, List.map_nil]); first | done | rfl | (simp only [List.length_drop, List.length_take]; rfl)) ?_; (with_reducible refine (kinds_Compare_c.calls a1_0 a1_1 a1_2 a0_0 a0_1 a0_2 t152 _ A47.out).mono ?_); rintro e w78 ⟨rfl, hb⟩; refine ⟨_, rfl, ?_⟩; have n0_ := Aside0.mk (blk_below (g := gb145) (o := .cells #[.bool a0_0, .int .i64 a0_1, .string a0_2] 23 (0, 0)) (by (with_reducible repeat (first | refine blk_drewN ?_ _ | refine blk_drew ?_ | refine blk_alloc ?_ _)); exact BK145.out) hb); have n1_ := Aside0.mk (blk_below (g := gb146) (o := .cells #[.bool a1_0, .int .i64 a1_1, .string a1_2] 23 (0, 0)) (by (with_reducible repeat (first | refine blk_drewN ?_ _ | refine blk_drew ?_ | refine blk_alloc ?_ _)); exact BK146.out) hb); have n2_ := Aside0.mk (blk_below (g := gb147) (o := .cells #[.bool a2_0, .int .i64 a2_1, .string a2_2] 23 (0, 0)) (by (with_reducible repeat (first | refine blk_drewN ?_ _ | refine blk_drew ?_ | refine blk_alloc ?_ _)); exact BK147.out) hb); have n3_ := Aside0.mk (below_step (by repeat (first | (with_reducible first | exact HB.out | apply below_alloc | apply pw_below_drewN | apply below_drew1 | refine below_set ?_ GE145.out | refine below_set ?_ GE146.out | refine below_set ?_ GE147.out) | exact HB.out)) hb); clear BK145; clear BK146; clear BK147; clear HB; have BK145 := n0_; have BK146 := n1_; have BK147 := n2_; have HB := n3_; clear n0_ n1_ n2_ n3_; (try clear hb); (try clear hb2); (try clear hk); (try clear hi)))
                    go_ret
                    exact ⟨by first | rfl | (simp [errW_none, errW_some] <;> rfl) | (simp [*, errW_none, errW_some] <;> rfl), by repeat (first | (with_reducible first | exact HB.out | apply below_alloc | apply pw_below_drewN | apply below_drew1 | refine below_set ?_ GE145.out | refine below_set ?_ GE146.out | refine below_set ?_ GE147.out) | exact HB.out)⟩
                · rw [if_neg c65] at H
                  have c65b0 : decide (0 < t150) = false := decide_eq_false c65
                  clear c65
                  by_cases c79 : t151 < 0
                  · rw [if_pos c79] at H
                    have c79b0 : decide (t151 < 0) = true := decide_eq_true c79
                    clear c79
                    by_cases c80 : t149 ≥ (-1)
                    · rw [if_pos c80] at H
                      have c80b0 : decide ((-1) ≤ t149) = true := decide_eq_true c80
                      clear c80
                      obtain rfl := Option.some.inj H
                      have hnb81 := NB146_145.out
                      have hnc81 := NB145_146.out
                      have hnb82 := NB146_147.out
                      have hnc82 := NB147_146.out
                      have hcz83_0 : wc.cell? ⟨gb146, 0, none⟩ = some (.bool a1_0) := (blk_cell BK146.out 0).trans rfl
                      have hcz83_1 : wc.cell? ⟨gb146, 1, none⟩ = some (.int .i64 a1_1) := (blk_cell BK146.out 1).trans rfl
                      have hcz83_2 : wc.cell? ⟨gb146, 2, none⟩ = some (.string a1_2) := (blk_cell BK146.out 2).trans rfl
                      have hfz83_0 := blk_frozen BK146.out 0
                      have hfz83_1 := blk_frozen BK146.out 1
                      have hfz83_2 := blk_frozen BK146.out 2
                      have hnb84 := NB145_147.out
                      have hnc84 := NB147_145.out
                      have hcz85_0 : wc.cell? ⟨gb145, 0, none⟩ = some (.bool a0_0) := (blk_cell BK145.out 0).trans rfl
                      have hcz85_1 : wc.cell? ⟨gb145, 1, none⟩ = some (.int .i64 a0_1) := (blk_cell BK145.out 1).trans rfl
                      have hcz85_2 : wc.cell? ⟨gb145, 2, none⟩ = some (.string a0_2) := (blk_cell BK145.out 2).trans rfl
                      have hfz85_0 := blk_frozen BK145.out 0
                      have hfz85_1 := blk_frozen BK145.out 1
                      have hfz85_2 := blk_frozen BK145.out 2
                      go_wp2_with (first | ((with_reducible refine gate_callee (f := 16) rfl ?_); refine goesL_ (some 54) rfl rfl Try.func16 (by kernel_rfl) rfl #[.agg #[.bool a1_0, .int .i64 a1_1, .string a1_2], .agg #[.bool a0_0, .int .i64 a0_1, .string a0_2]] rfl (by (try simp only [List.map_toArray, List.map_cons, List.map_nil]); first | done | rfl | (simp only [List.length_drop, List.length_take]; rfl)) ?_; (with_reducible refine (kinds_Compare_c.calls a1_0 a1_1 a1_2 a0_0 a0_1 a0_2 t152 _ A47.out).mono ?_); rintro e w86 ⟨rfl, hb⟩; refine ⟨_, rfl, ?_⟩; have n0_ := Aside0.mk (blk_below (g := gb145) (o := .cells #[.bool a0_0, .int .i64 a0_1, .string a0_2] 23 (0, 0)) (by (with_reducible repeat (first | refine blk_drewN ?_ _ | refine blk_drew ?_ | refine blk_alloc ?_ _)); exact BK145.out) hb); have n1_ := Aside0.mk (blk_below (g := gb146) (o := .cells #[.bool a1_0, .int .i64 a1_1, .string a1_2] 23 (0, 0)) (by (with_reducible repeat (first | refine blk_drewN ?_ _ | refine blk_drew ?_ | refine blk_alloc ?_ _)); exact BK146.out) hb); have n2_ := Aside0.mk (blk_below (g := gb147) (o := .cells #[.bool a2_0, .int .i64 a2_1, .string a2_2] 23 (0, 0)) (by (with_reducible repeat (first | refine blk_drewN ?_ _ | refine blk_drew ?_ | refine blk_alloc ?_ _)); exact BK147.out) hb); have n3_ := Aside0.mk (below_step (by repeat (first | (with_reducible first | exact HB.out | apply below_alloc | apply pw_below_drewN | apply below_drew1 | refine below_set ?_ GE145.out | refine below_set ?_ GE146.out | refine below_set ?_ GE147.out) | exact HB.out)) hb); clear BK145; clear BK146; clear BK147; clear HB; have BK145 := n0_; have BK146 := n1_; have BK147 := n2_; have HB := n3_; clear n0_ n1_ n2_ n3_; (try clear hb); (try clear hb2); (try clear hk); (try clear hi)))
                      go_ret
                      exact ⟨by first | rfl | (simp [errW_none, errW_some] <;> rfl) | (simp [*, errW_none, errW_some] <;> rfl), by repeat (first | (with_reducible first | exact HB.out | apply below_alloc | apply pw_below_drewN | apply below_drew1 | refine below_set ?_ GE145.out | refine below_set ?_ GE146.out | refine below_set ?_ GE147.out) | exact HB.out)⟩
                    · rw [if_neg c80] at H
                      have c80b0 : decide ((-1) ≤ t149) = false := decide_eq_false c80
                      clear c80
                      obtain rfl := Option.some.inj H
                      have hnb87 := NB146_145.out
                      have hnc87 := NB145_146.out
                      have hnb88 := NB146_147.out
                      have hnc88 := NB147_146.out
                      have hcz89_0 : wc.cell? ⟨gb146, 0, none⟩ = some (.bool a1_0) := (blk_cell BK146.out 0).trans rfl
                      have hcz89_1 : wc.cell? ⟨gb146, 1, none⟩ = some (.int .i64 a1_1) := (blk_cell BK146.out 1).trans rfl
                      have hcz89_2 : wc.cell? ⟨gb146, 2, none⟩ = some (.string a1_2) := (blk_cell BK146.out 2).trans rfl
                      have hfz89_0 := blk_frozen BK146.out 0
                      have hfz89_1 := blk_frozen BK146.out 1
                      have hfz89_2 := blk_frozen BK146.out 2
                      have hnb90 := NB145_147.out
                      have hnc90 := NB147_145.out
                      have hcz91_0 : wc.cell? ⟨gb145, 0, none⟩ = some (.bool a0_0) := (blk_cell BK145.out 0).trans rfl
                      have hcz91_1 : wc.cell? ⟨gb145, 1, none⟩ = some (.int .i64 a0_1) := (blk_cell BK145.out 1).trans rfl
                      have hcz91_2 : wc.cell? ⟨gb145, 2, none⟩ = some (.string a0_2) := (blk_cell BK145.out 2).trans rfl
                      have hfz91_0 := blk_frozen BK145.out 0
                      have hfz91_1 := blk_frozen BK145.out 1
                      have hfz91_2 := blk_frozen BK145.out 2
                      go_wp2_with (first | ((with_reducible refine gate_callee (f := 16) rfl ?_); refine goesL_ (some 54) rfl rfl Try.func16 (by kernel_rfl) rfl #[.agg #[.bool a1_0, .int .i64 a1_1, .string a1_2], .agg #[.bool a0_0, .int .i64 a0_1, .string a0_2]] rfl (by (try simp only [List.map_toArray, List.map_cons, List.map_nil]); first | done | rfl | (simp only [List.length_drop, List.length_take]; rfl)) ?_; (with_reducible refine (kinds_Compare_c.calls a1_0 a1_1 a1_2 a0_0 a0_1 a0_2 t152 _ A47.out).mono ?_); rintro e w92 ⟨rfl, hb⟩; refine ⟨_, rfl, ?_⟩; have n0_ := Aside0.mk (blk_below (g := gb145) (o := .cells #[.bool a0_0, .int .i64 a0_1, .string a0_2] 23 (0, 0)) (by (with_reducible repeat (first | refine blk_drewN ?_ _ | refine blk_drew ?_ | refine blk_alloc ?_ _)); exact BK145.out) hb); have n1_ := Aside0.mk (blk_below (g := gb146) (o := .cells #[.bool a1_0, .int .i64 a1_1, .string a1_2] 23 (0, 0)) (by (with_reducible repeat (first | refine blk_drewN ?_ _ | refine blk_drew ?_ | refine blk_alloc ?_ _)); exact BK146.out) hb); have n2_ := Aside0.mk (blk_below (g := gb147) (o := .cells #[.bool a2_0, .int .i64 a2_1, .string a2_2] 23 (0, 0)) (by (with_reducible repeat (first | refine blk_drewN ?_ _ | refine blk_drew ?_ | refine blk_alloc ?_ _)); exact BK147.out) hb); have n3_ := Aside0.mk (below_step (by repeat (first | (with_reducible first | exact HB.out | apply below_alloc | apply pw_below_drewN | apply below_drew1 | refine below_set ?_ GE145.out | refine below_set ?_ GE146.out | refine below_set ?_ GE147.out) | exact HB.out)) hb); clear BK145; clear BK146; clear BK147; clear HB; have BK145 := n0_; have BK146 := n1_; have BK147 := n2_; have HB := n3_; clear n0_ n1_ n2_ n3_; (try clear hb); (try clear hb2); (try clear hk); (try clear hi)))
                      go_ret
                      exact ⟨by first | rfl | (simp [errW_none, errW_some] <;> rfl) | (simp [*, errW_none, errW_some] <;> rfl), by repeat (first | (with_reducible first | exact HB.out | apply below_alloc | apply pw_below_drewN | apply below_drew1 | refine below_set ?_ GE145.out | refine below_set ?_ GE146.out | refine below_set ?_ GE147.out) | exact HB.out)⟩
                  · rw [if_neg c79] at H
                    have c79b0 : decide (t151 < 0) = false := decide_eq_false c79
                    clear c79
                    obtain rfl := Option.some.inj H
                    have hnb93 := NB146_145.out
                    have hnc93 := NB145_146.out
                    have hnb94 := NB146_147.out
                    have hnc94 := NB147_146.out
                    have hcz95_0 : wc.cell? ⟨gb146, 0, none⟩ = some (.bool a1_0) := (blk_cell BK146.out 0).trans rfl
                    have hcz95_1 : wc.cell? ⟨gb146, 1, none⟩ = some (.int .i64 a1_1) := (blk_cell BK146.out 1).trans rfl
                    have hcz95_2 : wc.cell? ⟨gb146, 2, none⟩ = some (.string a1_2) := (blk_cell BK146.out 2).trans rfl
                    have hfz95_0 := blk_frozen BK146.out 0
                    have hfz95_1 := blk_frozen BK146.out 1
                    have hfz95_2 := blk_frozen BK146.out 2
                    have hnb96 := NB145_147.out
                    have hnc96 := NB147_145.out
                    have hcz97_0 : wc.cell? ⟨gb145, 0, none⟩ = some (.bool a0_0) := (blk_cell BK145.out 0).trans rfl
                    have hcz97_1 : wc.cell? ⟨gb145, 1, none⟩ = some (.int .i64 a0_1) := (blk_cell BK145.out 1).trans rfl
                    have hcz97_2 : wc.cell? ⟨gb145, 2, none⟩ = some (.string a0_2) := (blk_cell BK145.out 2).trans rfl
                    have hfz97_0 := blk_frozen BK145.out 0
                    have hfz97_1 := blk_frozen BK145.out 1
                    have hfz97_2 := blk_frozen BK145.out 2
                    go_wp2_with (first | ((with_reducible refine gate_callee (f := 16) rfl ?_); refine goesL_ (some 54) rfl rfl Try.func16 (by kernel_rfl) rfl #[.agg #[.bool a1_0, .int .i64 a1_1, .string a1_2], .agg #[.bool a0_0, .int .i64 a0_1, .string a0_2]] rfl (by (try simp only [List.map_toArray, List.map_cons, List.map_nil]); first | done | rfl | (simp only [List.length_drop, List.length_take]; rfl)) ?_; (with_reducible refine (kinds_Compare_c.calls a1_0 a1_1 a1_2 a0_0 a0_1 a0_2 t152 _ A47.out).mono ?_); rintro e w98 ⟨rfl, hb⟩; refine ⟨_, rfl, ?_⟩; have n0_ := Aside0.mk (blk_below (g := gb145) (o := .cells #[.bool a0_0, .int .i64 a0_1, .string a0_2] 23 (0, 0)) (by (with_reducible repeat (first | refine blk_drewN ?_ _ | refine blk_drew ?_ | refine blk_alloc ?_ _)); exact BK145.out) hb); have n1_ := Aside0.mk (blk_below (g := gb146) (o := .cells #[.bool a1_0, .int .i64 a1_1, .string a1_2] 23 (0, 0)) (by (with_reducible repeat (first | refine blk_drewN ?_ _ | refine blk_drew ?_ | refine blk_alloc ?_ _)); exact BK146.out) hb); have n2_ := Aside0.mk (blk_below (g := gb147) (o := .cells #[.bool a2_0, .int .i64 a2_1, .string a2_2] 23 (0, 0)) (by (with_reducible repeat (first | refine blk_drewN ?_ _ | refine blk_drew ?_ | refine blk_alloc ?_ _)); exact BK147.out) hb); have n3_ := Aside0.mk (below_step (by repeat (first | (with_reducible first | exact HB.out | apply below_alloc | apply pw_below_drewN | apply below_drew1 | refine below_set ?_ GE145.out | refine below_set ?_ GE146.out | refine below_set ?_ GE147.out) | exact HB.out)) hb); clear BK145; clear BK146; clear BK147; clear HB; have BK145 := n0_; have BK146 := n1_; have BK147 := n2_; have HB := n3_; clear n0_ n1_ n2_ n3_; (try clear hb); (try clear hb2); (try clear hk); (try clear hi)))
                    go_ret
                    exact ⟨by first | rfl | (simp [errW_none, errW_some] <;> rfl) | (simp [*, errW_none, errW_some] <;> rfl), by repeat (first | (with_reducible first | exact HB.out | apply below_alloc | apply pw_below_drewN | apply below_drew1 | refine below_set ?_ GE145.out | refine below_set ?_ GE146.out | refine below_set ?_ GE147.out) | exact HB.out)⟩
            · rw [if_neg c50] at H
              have c50b0 : decide (0 < t149) = false := decide_eq_false c50
              clear c50
              by_cases c99 : t150 > 0
              · rw [if_pos c99] at H
                have c99b0 : decide (0 < t150) = true := decide_eq_true c99
                clear c99
                by_cases c100 : t149 ≥ 0
                · rw [if_pos c100] at H
                  have c100b0 : decide (0 ≤ t149) = true := decide_eq_true c100
                  clear c100
                  by_cases c101 : t150 ≥ 0
                  · rw [if_pos c101] at H
                    have c101b0 : decide (0 ≤ t150) = true := decide_eq_true c101
                    clear c101
                    by_cases c102 : t149 ≥ (-1)
                    · rw [if_pos c102] at H
                      have c102b0 : decide ((-1) ≤ t149) = true := decide_eq_true c102
                      clear c102
                      obtain rfl := Option.some.inj H
                      have hnb103 := NB146_145.out
                      have hnc103 := NB145_146.out
                      have hnb104 := NB146_147.out
                      have hnc104 := NB147_146.out
                      have hcz105_0 : wc.cell? ⟨gb146, 0, none⟩ = some (.bool a1_0) := (blk_cell BK146.out 0).trans rfl
                      have hcz105_1 : wc.cell? ⟨gb146, 1, none⟩ = some (.int .i64 a1_1) := (blk_cell BK146.out 1).trans rfl
                      have hcz105_2 : wc.cell? ⟨gb146, 2, none⟩ = some (.string a1_2) := (blk_cell BK146.out 2).trans rfl
                      have hfz105_0 := blk_frozen BK146.out 0
                      have hfz105_1 := blk_frozen BK146.out 1
                      have hfz105_2 := blk_frozen BK146.out 2
                      have hnb106 := NB145_147.out
                      have hnc106 := NB147_145.out
                      have hcz107_0 : wc.cell? ⟨gb145, 0, none⟩ = some (.bool a0_0) := (blk_cell BK145.out 0).trans rfl
                      have hcz107_1 : wc.cell? ⟨gb145, 1, none⟩ = some (.int .i64 a0_1) := (blk_cell BK145.out 1).trans rfl
                      have hcz107_2 : wc.cell? ⟨gb145, 2, none⟩ = some (.string a0_2) := (blk_cell BK145.out 2).trans rfl
                      have hfz107_0 := blk_frozen BK145.out 0
                      have hfz107_1 := blk_frozen BK145.out 1
                      have hfz107_2 := blk_frozen BK145.out 2
                      go_wp2_with (first | ((with_reducible refine gate_callee (f := 16) rfl ?_); refine goesL_ (some 54) rfl rfl Try.func16 (by kernel_rfl) rfl #[.agg #[.bool a1_0, .int .i64 a1_1, .string a1_2], .agg #[.bool a0_0, .int .i64 a0_1, .string a0_2]] rfl (by (try simp only [List.map_toArray, List.map_cons, List.map_nil]); first | done | rfl | (simp only [List.length_drop, List.length_take]; rfl)) ?_; (with_reducible refine (kinds_Compare_c.calls a1_0 a1_1 a1_2 a0_0 a0_1 a0_2 t152 _ A47.out).mono ?_); rintro e w108 ⟨rfl, hb⟩; refine ⟨_, rfl, ?_⟩; have n0_ := Aside0.mk (blk_below (g := gb145) (o := .cells #[.bool a0_0, .int .i64 a0_1, .string a0_2] 23 (0, 0)) (by (with_reducible repeat (first | refine blk_drewN ?_ _ | refine blk_drew ?_ | refine blk_alloc ?_ _)); exact BK145.out) hb); have n1_ := Aside0.mk (blk_below (g := gb146) (o := .cells #[.bool a1_0, .int .i64 a1_1, .string a1_2] 23 (0, 0)) (by (with_reducible repeat (first | refine blk_drewN ?_ _ | refine blk_drew ?_ | refine blk_alloc ?_ _)); exact BK146.out) hb); have n2_ := Aside0.mk (blk_below (g := gb147) (o := .cells #[.bool a2_0, .int .i64 a2_1, .string a2_2] 23 (0, 0)) (by (with_reducible repeat (first | refine blk_drewN ?_ _ | refine blk_drew ?_ | refine blk_alloc ?_ _)); exact BK147.out) hb); have n3_ := Aside0.mk (below_step (by repeat (first | (with_reducible first | exact HB.out | apply below_alloc | apply pw_below_drewN | apply below_drew1 | refine below_set ?_ GE145.out | refine below_set ?_ GE146.out | refine below_set ?_ GE147.out) | exact HB.out)) hb); clear BK145; clear BK146; clear BK147; clear HB; have BK145 := n0_; have BK146 := n1_; have BK147 := n2_; have HB := n3_; clear n0_ n1_ n2_ n3_; (try clear hb); (try clear hb2); (try clear hk); (try clear hi)))
                      go_ret
                      exact ⟨by first | rfl | (simp [errW_none, errW_some] <;> rfl) | (simp [*, errW_none, errW_some] <;> rfl), by repeat (first | (with_reducible first | exact HB.out | apply below_alloc | apply pw_below_drewN | apply below_drew1 | refine below_set ?_ GE145.out | refine below_set ?_ GE146.out | refine below_set ?_ GE147.out) | exact HB.out)⟩
                    · rw [if_neg c102] at H
                      have c102b0 : decide ((-1) ≤ t149) = false := decide_eq_false c102
                      clear c102
                      obtain rfl := Option.some.inj H
                      have hnb109 := NB146_145.out
                      have hnc109 := NB145_146.out
                      have hnb110 := NB146_147.out
                      have hnc110 := NB147_146.out
                      have hcz111_0 : wc.cell? ⟨gb146, 0, none⟩ = some (.bool a1_0) := (blk_cell BK146.out 0).trans rfl
                      have hcz111_1 : wc.cell? ⟨gb146, 1, none⟩ = some (.int .i64 a1_1) := (blk_cell BK146.out 1).trans rfl
                      have hcz111_2 : wc.cell? ⟨gb146, 2, none⟩ = some (.string a1_2) := (blk_cell BK146.out 2).trans rfl
                      have hfz111_0 := blk_frozen BK146.out 0
                      have hfz111_1 := blk_frozen BK146.out 1
                      have hfz111_2 := blk_frozen BK146.out 2
                      have hnb112 := NB145_147.out
                      have hnc112 := NB147_145.out
                      have hcz113_0 : wc.cell? ⟨gb145, 0, none⟩ = some (.bool a0_0) := (blk_cell BK145.out 0).trans rfl
                      have hcz113_1 : wc.cell? ⟨gb145, 1, none⟩ = some (.int .i64 a0_1) := (blk_cell BK145.out 1).trans rfl
                      have hcz113_2 : wc.cell? ⟨gb145, 2, none⟩ = some (.string a0_2) := (blk_cell BK145.out 2).trans rfl
                      have hfz113_0 := blk_frozen BK145.out 0
                      have hfz113_1 := blk_frozen BK145.out 1
                      have hfz113_2 := blk_frozen BK145.out 2
                      go_wp2_with (first | ((with_reducible refine gate_callee (f := 16) rfl ?_); refine goesL_ (some 54) rfl rfl Try.func16 (by kernel_rfl) rfl #[.agg #[.bool a1_0, .int .i64 a1_1, .string a1_2], .agg #[.bool a0_0, .int .i64 a0_1, .string a0_2]] rfl (by (try simp only [List.map_toArray, List.map_cons, List.map_nil]); first | done | rfl | (simp only [List.length_drop, List.length_take]; rfl)) ?_; (with_reducible refine (kinds_Compare_c.calls a1_0 a1_1 a1_2 a0_0 a0_1 a0_2 t152 _ A47.out).mono ?_); rintro e w114 ⟨rfl, hb⟩; refine ⟨_, rfl, ?_⟩; have n0_ := Aside0.mk (blk_below (g := gb145) (o := .cells #[.bool a0_0, .int .i64 a0_1, .string a0_2] 23 (0, 0)) (by (with_reducible repeat (first | refine blk_drewN ?_ _ | refine blk_drew ?_ | refine blk_alloc ?_ _)); exact BK145.out) hb); have n1_ := Aside0.mk (blk_below (g := gb146) (o := .cells #[.bool a1_0, .int .i64 a1_1, .string a1_2] 23 (0, 0)) (by (with_reducible repeat (first | refine blk_drewN ?_ _ | refine blk_drew ?_ | refine blk_alloc ?_ _)); exact BK146.out) hb); have n2_ := Aside0.mk (blk_below (g := gb147) (o := .cells #[.bool a2_0, .int .i64 a2_1, .string a2_2] 23 (0, 0)) (by (with_reducible repeat (first | refine blk_drewN ?_ _ | refine blk_drew ?_ | refine blk_alloc ?_ _)); exact BK147.out) hb); have n3_ := Aside0.mk (below_step (by repeat (first | (with_reducible first | exact HB.out | apply below_alloc | apply pw_below_drewN | apply below_drew1 | refine below_set ?_ GE145.out | refine below_set ?_ GE146.out | refine below_set ?_ GE147.out) | exact HB.out)) hb); clear BK145; clear BK146; clear BK147; clear HB; have BK145 := n0_; have BK146 := n1_; have BK147 := n2_; have HB := n3_; clear n0_ n1_ n2_ n3_; (try clear hb); (try clear hb2); (try clear hk); (try clear hi)))
                      go_ret
                      exact ⟨by first | rfl | (simp [errW_none, errW_some] <;> rfl) | (simp [*, errW_none, errW_some] <;> rfl), by repeat (first | (with_reducible first | exact HB.out | apply below_alloc | apply pw_below_drewN | apply below_drew1 | refine below_set ?_ GE145.out | refine below_set ?_ GE146.out | refine below_set ?_ GE147.out) | exact HB.out)⟩
                  · rw [if_neg c101] at H
                    have c101b0 : decide (0 ≤ t150) = false := decide_eq_false c101
                    clear c101
                    by_cases c115 : t151 < 0
                    · rw [if_pos c115] at H
                      have c115b0 : decide (t151 < 0) = true := decide_eq_true c115
                      clear c115
                      by_cases c116 : t149 ≥ (-1)
                      · rw [if_pos c116] at H
                        have c116b0 : decide ((-1) ≤ t149) = true := decide_eq_true c116
                        clear c116
                        obtain rfl := Option.some.inj H
                        have hnb117 := NB146_145.out
                        have hnc117 := NB145_146.out
                        have hnb118 := NB146_147.out
                        have hnc118 := NB147_146.out
                        have hcz119_0 : wc.cell? ⟨gb146, 0, none⟩ = some (.bool a1_0) := (blk_cell BK146.out 0).trans rfl
                        have hcz119_1 : wc.cell? ⟨gb146, 1, none⟩ = some (.int .i64 a1_1) := (blk_cell BK146.out 1).trans rfl
                        have hcz119_2 : wc.cell? ⟨gb146, 2, none⟩ = some (.string a1_2) := (blk_cell BK146.out 2).trans rfl
                        have hfz119_0 := blk_frozen BK146.out 0
                        have hfz119_1 := blk_frozen BK146.out 1
                        have hfz119_2 := blk_frozen BK146.out 2
                        have hnb120 := NB145_147.out
                        have hnc120 := NB147_145.out
                        have hcz121_0 : wc.cell? ⟨gb145, 0, none⟩ = some (.bool a0_0) := (blk_cell BK145.out 0).trans rfl
                        have hcz121_1 : wc.cell? ⟨gb145, 1, none⟩ = some (.int .i64 a0_1) := (blk_cell BK145.out 1).trans rfl
                        have hcz121_2 : wc.cell? ⟨gb145, 2, none⟩ = some (.string a0_2) := (blk_cell BK145.out 2).trans rfl
                        have hfz121_0 := blk_frozen BK145.out 0
                        have hfz121_1 := blk_frozen BK145.out 1
                        have hfz121_2 := blk_frozen BK145.out 2
                        go_wp2_with (first | ((with_reducible refine gate_callee (f := 16) rfl ?_); refine goesL_ (some 54) rfl rfl Try.func16 (by kernel_rfl) rfl #[.agg #[.bool a1_0, .int .i64 a1_1, .string a1_2], .agg #[.bool a0_0, .int .i64 a0_1, .string a0_2]] rfl (by (try simp only [List.map_toArray, List.map_cons, List.map_nil]); first | done | rfl | (simp only [List.length_drop, List.length_take]; rfl)) ?_; (with_reducible refine (kinds_Compare_c.calls a1_0 a1_1 a1_2 a0_0 a0_1 a0_2 t152 _ A47.out).mono ?_); rintro e w122 ⟨rfl, hb⟩; refine ⟨_, rfl, ?_⟩; have n0_ := Aside0.mk (blk_below (g := gb145) (o := .cells #[.bool a0_0, .int .i64 a0_1, .string a0_2] 23 (0, 0)) (by (with_reducible repeat (first | refine blk_drewN ?_ _ | refine blk_drew ?_ | refine blk_alloc ?_ _)); exact BK145.out) hb); have n1_ := Aside0.mk (blk_below (g := gb146) (o := .cells #[.bool a1_0, .int .i64 a1_1, .string a1_2] 23 (0, 0)) (by (with_reducible repeat (first | refine blk_drewN ?_ _ | refine blk_drew ?_ | refine blk_alloc ?_ _)); exact BK146.out) hb); have n2_ := Aside0.mk (blk_below (g := gb147) (o := .cells #[.bool a2_0, .int .i64 a2_1, .string a2_2] 23 (0, 0)) (by (with_reducible repeat (first | refine blk_drewN ?_ _ | refine blk_drew ?_ | refine blk_alloc ?_ _)); exact BK147.out) hb); have n3_ := Aside0.mk (below_step (by repeat (first | (with_reducible first | exact HB.out | apply below_alloc | apply pw_below_drewN | apply below_drew1 | refine below_set ?_ GE145.out | refine below_set ?_ GE146.out | refine below_set ?_ GE147.out) | exact HB.out)) hb); clear BK145; clear BK146; clear BK147; clear HB; have BK145 := n0_; have BK146 := n1_; have BK147 := n2_; have HB := n3_; clear n0_ n1_ n2_ n3_; (try clear hb); (try clear hb2); (try clear hk); (try clear hi)))
                        go_ret
                        exact ⟨by first | rfl | (simp [errW_none, errW_some] <;> rfl) | (simp [*, errW_none, errW_some] <;> rfl), by repeat (first | (with_reducible first | exact HB.out | apply below_alloc | apply pw_below_drewN | apply below_drew1 | refine below_set ?_ GE145.out | refine below_set ?_ GE146.out | refine below_set ?_ GE147.out) | exact HB.out)⟩
                      · rw [if_neg c116] at H
                        have c116b0 : decide ((-1) ≤ t149) = false := decide_eq_false c116
                        clear c116
                        obtain rfl := Option.some.inj H
                        have hnb123 := NB146_145.out
                        have hnc123 := NB145_146.out
                        have hnb124 := NB146_147.out
                        have hnc124 := NB147_146.out
                        have hcz125_0 : wc.cell? ⟨gb146, 0, none⟩ = some (.bool a1_0) := (blk_cell BK146.out 0).trans rfl
                        have hcz125_1 : wc.cell? ⟨gb146, 1, none⟩ = some (.int .i64 a1_1) := (blk_cell BK146.out 1).trans rfl
                        have hcz125_2 : wc.cell? ⟨gb146, 2, none⟩ = some (.string a1_2) := (blk_cell BK146.out 2).trans rfl
                        have hfz125_0 := blk_frozen BK146.out 0
                        have hfz125_1 := blk_frozen BK146.out 1
                        have hfz125_2 := blk_frozen BK146.out 2
                        have hnb126 := NB145_147.out
                        have hnc126 := NB147_145.out
                        have hcz127_0 : wc.cell? ⟨gb145, 0, none⟩ = some (.bool a0_0) := (blk_cell BK145.out 0).trans rfl
                        have hcz127_1 : wc.cell? ⟨gb145, 1, none⟩ = some (.int .i64 a0_1) := (blk_cell BK145.out 1).trans rfl
                        have hcz127_2 : wc.cell? ⟨gb145, 2, none⟩ = some (.string a0_2) := (blk_cell BK145.out 2).trans rfl
                        have hfz127_0 := blk_frozen BK145.out 0
                        have hfz127_1 := blk_frozen BK145.out 1
                        have hfz127_2 := blk_frozen BK145.out 2
                        go_wp2_with (first | ((with_reducible refine gate_callee (f := 16) rfl ?_); refine goesL_ (some 54) rfl rfl Try.func16 (by kernel_rfl) rfl #[.agg #[.bool a1_0, .int .i64 a1_1, .string a1_2], .agg #[.bool a0_0, .int .i64 a0_1, .string a0_2]] rfl (by (try simp only [List.map_toArray, List.map_cons, List.map_nil]); first | done | rfl | (simp only [List.length_drop, List.length_take]; rfl)) ?_; (with_reducible refine (kinds_Compare_c.calls a1_0 a1_1 a1_2 a0_0 a0_1 a0_2 t152 _ A47.out).mono ?_); rintro e w128 ⟨rfl, hb⟩; refine ⟨_, rfl, ?_⟩; have n0_ := Aside0.mk (blk_below (g := gb145) (o := .cells #[.bool a0_0, .int .i64 a0_1, .string a0_2] 23 (0, 0)) (by (with_reducible repeat (first | refine blk_drewN ?_ _ | refine blk_drew ?_ | refine blk_alloc ?_ _)); exact BK145.out) hb); have n1_ := Aside0.mk (blk_below (g := gb146) (o := .cells #[.bool a1_0, .int .i64 a1_1, .string a1_2] 23 (0, 0)) (by (with_reducible repeat (first | refine blk_drewN ?_ _ | refine blk_drew ?_ | refine blk_alloc ?_ _)); exact BK146.out) hb); have n2_ := Aside0.mk (blk_below (g := gb147) (o := .cells #[.bool a2_0, .int .i64 a2_1, .string a2_2] 23 (0, 0)) (by (with_reducible repeat (first | refine blk_drewN ?_ _ | refine blk_drew ?_ | refine blk_alloc ?_ _)); exact BK147.out) hb); have n3_ := Aside0.mk (below_step (by repeat (first | (with_reducible first | exact HB.out | apply below_alloc | apply pw_below_drewN | apply below_drew1 | refine below_set ?_ GE145.out | refine below_set ?_ GE146.out | refine below_set ?_ GE147.out) | exact HB.out)) hb); clear BK145; clear BK146; clear BK147; clear HB; have BK145 := n0_; have BK146 := n1_; have BK147 := n2_; have HB := n3_; clear n0_ n1_ n2_ n3_; (try clear hb); (try clear hb2); (try clear hk); (try clear hi)))
                        go_ret
                        exact ⟨by first | rfl | (simp [errW_none, errW_some] <;> rfl) | (simp [*, errW_none, errW_some] <;> rfl), by repeat (first | (with_reducible first | exact HB.out | apply below_alloc | apply pw_below_drewN | apply below_drew1 | refine below_set ?_ GE145.out | refine below_set ?_ GE146.out | refine below_set ?_ GE147.out) | exact HB.out)⟩
                    · rw [if_neg c115] at H
                      have c115b0 : decide (t151 < 0) = false := decide_eq_false c115
                      clear c115
                      obtain rfl := Option.some.inj H
                      have hnb129 := NB146_145.out
                      have hnc129 := NB145_146.out
                      have hnb130 := NB146_147.out
                      have hnc130 := NB147_146.out
                      have hcz131_0 : wc.cell? ⟨gb146, 0, none⟩ = some (.bool a1_0) := (blk_cell BK146.out 0).trans rfl
                      have hcz131_1 : wc.cell? ⟨gb146, 1, none⟩ = some (.int .i64 a1_1) := (blk_cell BK146.out 1).trans rfl
                      have hcz131_2 : wc.cell? ⟨gb146, 2, none⟩ = some (.string a1_2) := (blk_cell BK146.out 2).trans rfl
                      have hfz131_0 := blk_frozen BK146.out 0
                      have hfz131_1 := blk_frozen BK146.out 1
                      have hfz131_2 := blk_frozen BK146.out 2
                      have hnb132 := NB145_147.out
                      have hnc132 := NB147_145.out
                      have hcz133_0 : wc.cell? ⟨gb145, 0, none⟩ = some (.bool a0_0) := (blk_cell BK145.out 0).trans rfl
                      have hcz133_1 : wc.cell? ⟨gb145, 1, none⟩ = some (.int .i64 a0_1) := (blk_cell BK145.out 1).trans rfl
                      have hcz133_2 : wc.cell? ⟨gb145, 2, none⟩ = some (.string a0_2) := (blk_cell BK145.out 2).trans rfl
                      have hfz133_0 := blk_frozen BK145.out 0
                      have hfz133_1 := blk_frozen BK145.out 1
                      have hfz133_2 := blk_frozen BK145.out 2
                      go_wp2_with (first | ((with_reducible refine gate_callee (f := 16) rfl ?_); refine goesL_ (some 54) rfl rfl Try.func16 (by kernel_rfl) rfl #[.agg #[.bool a1_0, .int .i64 a1_1, .string a1_2], .agg #[.bool a0_0, .int .i64 a0_1, .string a0_2]] rfl (by (try simp only [List.map_toArray, List.map_cons, List.map_nil]); first | done | rfl | (simp only [List.length_drop, List.length_take]; rfl)) ?_; (with_reducible refine (kinds_Compare_c.calls a1_0 a1_1 a1_2 a0_0 a0_1 a0_2 t152 _ A47.out).mono ?_); rintro e w134 ⟨rfl, hb⟩; refine ⟨_, rfl, ?_⟩; have n0_ := Aside0.mk (blk_below (g := gb145) (o := .cells #[.bool a0_0, .int .i64 a0_1, .string a0_2] 23 (0, 0)) (by (with_reducible repeat (first | refine blk_drewN ?_ _ | refine blk_drew ?_ | refine blk_alloc ?_ _)); exact BK145.out) hb); have n1_ := Aside0.mk (blk_below (g := gb146) (o := .cells #[.bool a1_0, .int .i64 a1_1, .string a1_2] 23 (0, 0)) (by (with_reducible repeat (first | refine blk_drewN ?_ _ | refine blk_drew ?_ | refine blk_alloc ?_ _)); exact BK146.out) hb); have n2_ := Aside0.mk (blk_below (g := gb147) (o := .cells #[.bool a2_0, .int .i64 a2_1, .string a2_2] 23 (0, 0)) (by (with_reducible repeat (first | refine blk_drewN ?_ _ | refine blk_drew ?_ | refine blk_alloc ?_ _)); exact BK147.out) hb); have n3_ := Aside0.mk (below_step (by repeat (first | (with_reducible first | exact HB.out | apply below_alloc | apply pw_below_drewN | apply below_drew1 | refine below_set ?_ GE145.out | refine below_set ?_ GE146.out | refine below_set ?_ GE147.out) | exact HB.out)) hb); clear BK145; clear BK146; clear BK147; clear HB; have BK145 := n0_; have BK146 := n1_; have BK147 := n2_; have HB := n3_; clear n0_ n1_ n2_ n3_; (try clear hb); (try clear hb2); (try clear hk); (try clear hi)))
                      go_ret
                      exact ⟨by first | rfl | (simp [errW_none, errW_some] <;> rfl) | (simp [*, errW_none, errW_some] <;> rfl), by repeat (first | (with_reducible first | exact HB.out | apply below_alloc | apply pw_below_drewN | apply below_drew1 | refine below_set ?_ GE145.out | refine below_set ?_ GE146.out | refine below_set ?_ GE147.out) | exact HB.out)⟩
                · rw [if_neg c100] at H
                  have c100b0 : decide (0 ≤ t149) = false := decide_eq_false c100
                  clear c100
                  by_cases c135 : t150 ≥ 0
                  · rw [if_pos c135] at H
                    have c135b0 : decide (0 ≤ t150) = true := decide_eq_true c135
                    clear c135
                    by_cases c136 : t149 ≥ (-1)
                    · rw [if_pos c136] at H
                      have c136b0 : decide ((-1) ≤ t149) = true := decide_eq_true c136
                      clear c136
                      obtain rfl := Option.some.inj H
                      have hnb137 := NB146_145.out
                      have hnc137 := NB145_146.out
                      have hnb138 := NB146_147.out
                      have hnc138 := NB147_146.out
                      have hcz139_0 : wc.cell? ⟨gb146, 0, none⟩ = some (.bool a1_0) := (blk_cell BK146.out 0).trans rfl
                      have hcz139_1 : wc.cell? ⟨gb146, 1, none⟩ = some (.int .i64 a1_1) := (blk_cell BK146.out 1).trans rfl
                      have hcz139_2 : wc.cell? ⟨gb146, 2, none⟩ = some (.string a1_2) := (blk_cell BK146.out 2).trans rfl
                      have hfz139_0 := blk_frozen BK146.out 0
                      have hfz139_1 := blk_frozen BK146.out 1
                      have hfz139_2 := blk_frozen BK146.out 2
                      have hnb140 := NB145_147.out
                      have hnc140 := NB147_145.out
                      have hcz141_0 : wc.cell? ⟨gb145, 0, none⟩ = some (.bool a0_0) := (blk_cell BK145.out 0).trans rfl
                      have hcz141_1 : wc.cell? ⟨gb145, 1, none⟩ = some (.int .i64 a0_1) := (blk_cell BK145.out 1).trans rfl
                      have hcz141_2 : wc.cell? ⟨gb145, 2, none⟩ = some (.string a0_2) := (blk_cell BK145.out 2).trans rfl
                      have hfz141_0 := blk_frozen BK145.out 0
                      have hfz141_1 := blk_frozen BK145.out 1
                      have hfz141_2 := blk_frozen BK145.out 2
                      go_wp2_with (first | ((with_reducible refine gate_callee (f := 16) rfl ?_); refine goesL_ (some 54) rfl rfl Try.func16 (by kernel_rfl) rfl #[.agg #[.bool a1_0, .int .i64 a1_1, .string a1_2], .agg #[.bool a0_0, .int .i64 a0_1, .string a0_2]] rfl (by (try simp only [List.map_toArray, List.map_cons, List.map_nil]); first | done | rfl | (simp only [List.length_drop, List.length_take]; rfl)) ?_; (with_reducible refine (kinds_Compare_c.calls a1_0 a1_1 a1_2 a0_0 a0_1 a0_2 t152 _ A47.out).mono ?_); rintro e w142 ⟨rfl, hb⟩; refine ⟨_, rfl, ?_⟩; have n0_ := Aside0.mk (blk_below (g := gb145) (o := .cells #[.bool a0_0, .int .i64 a0_1, .string a0_2] 23 (0, 0)) (by (with_reducible repeat (first | refine blk_drewN ?_ _ | refine blk_drew ?_ | refine blk_alloc ?_ _)); exact BK145.out) hb); have n1_ := Aside0.mk (blk_below (g := gb146) (o := .cells #[.bool a1_0, .int .i64 a1_1, .string a1_2] 23 (0, 0)) (by (with_reducible repeat (first | refine blk_drewN ?_ _ | refine blk_drew ?_ | refine blk_alloc ?_ _)); exact BK146.out) hb); have n2_ := Aside0.mk (blk_below (g := gb147) (o := .cells #[.bool a2_0, .int .i64 a2_1, .string a2_2] 23 (0, 0)) (by (with_reducible repeat (first | refine blk_drewN ?_ _ | refine blk_drew ?_ | refine blk_alloc ?_ _)); exact BK147.out) hb); have n3_ := Aside0.mk (below_step (by repeat (first | (with_reducible first | exact HB.out | apply below_alloc | apply pw_below_drewN | apply below_drew1 | refine below_set ?_ GE145.out | refine below_set ?_ GE146.out | refine below_set ?_ GE147.out) | exact HB.out)) hb); clear BK145; clear BK146; clear BK147; clear HB; have BK145 := n0_; have BK146 := n1_; have BK147 := n2_; have HB := n3_; clear n0_ n1_ n2_ n3_; (try clear hb); (try clear hb2); (try clear hk); (try clear hi)))
                      go_ret
                      exact ⟨by first | rfl | (simp [errW_none, errW_some] <;> rfl) | (simp [*, errW_none, errW_some] <;> rfl), by repeat (first | (with_reducible first | exact HB.out | apply below_alloc | apply pw_below_drewN | apply below_drew1 | refine below_set ?_ GE145.out | refine below_set ?_ GE146.out | refine below_set ?_ GE147.out) | exact HB.out)⟩
                    · rw [if_neg c136] at H
                      have c136b0 : decide ((-1) ≤ t149) = false := decide_eq_false c136
                      clear c136
                      obtain rfl := Option.some.inj H
                      have hnb143 := NB146_145.out
                      have hnc143 := NB145_146.out
                      have hnb144 := NB146_147.out
                      have hnc144 := NB147_146.out
                      have hcz145_0 : wc.cell? ⟨gb146, 0, none⟩ = some (.bool a1_0) := (blk_cell BK146.out 0).trans rfl
                      have hcz145_1 : wc.cell? ⟨gb146, 1, none⟩ = some (.int .i64 a1_1) := (blk_cell BK146.out 1).trans rfl
                      have hcz145_2 : wc.cell? ⟨gb146, 2, none⟩ = some (.string a1_2) := (blk_cell BK146.out 2).trans rfl
                      have hfz145_0 := blk_frozen BK146.out 0
                      have hfz145_1 := blk_frozen BK146.out 1
                      have hfz145_2 := blk_frozen BK146.out 2
                      have hnb146 := NB145_147.out
                      have hnc146 := NB147_145.out
                      have hcz147_0 : wc.cell? ⟨gb145, 0, none⟩ = some (.bool a0_0) := (blk_cell BK145.out 0).trans rfl
                      have hcz147_1 : wc.cell? ⟨gb145, 1, none⟩ = some (.int .i64 a0_1) := (blk_cell BK145.out 1).trans rfl
                      have hcz147_2 : wc.cell? ⟨gb145, 2, none⟩ = some (.string a0_2) := (blk_cell BK145.out 2).trans rfl
                      have hfz147_0 := blk_frozen BK145.out 0
                      have hfz147_1 := blk_frozen BK145.out 1
                      have hfz147_2 := blk_frozen BK145.out 2
                      go_wp2_with (first | ((with_reducible refine gate_callee (f := 16) rfl ?_); refine goesL_ (some 54) rfl rfl Try.func16 (by kernel_rfl) rfl #[.agg #[.bool a1_0, .int .i64 a1_1, .string a1_2], .agg #[.bool a0_0, .int .i64 a0_1, .string a0_2]] rfl (by (try simp only [List.map_toArray, List.map_cons, List.map_nil]); first | done | rfl | (simp only [List.length_drop, List.length_take]; rfl)) ?_; (with_reducible refine (kinds_Compare_c.calls a1_0 a1_1 a1_2 a0_0 a0_1 a0_2 t152 _ A47.out).mono ?_); rintro e w148 ⟨rfl, hb⟩; refine ⟨_, rfl, ?_⟩; have n0_ := Aside0.mk (blk_below (g := gb145) (o := .cells #[.bool a0_0, .int .i64 a0_1, .string a0_2] 23 (0, 0)) (by (with_reducible repeat (first | refine blk_drewN ?_ _ | refine blk_drew ?_ | refine blk_alloc ?_ _)); exact BK145.out) hb); have n1_ := Aside0.mk (blk_below (g := gb146) (o := .cells #[.bool a1_0, .int .i64 a1_1, .string a1_2] 23 (0, 0)) (by (with_reducible repeat (first | refine blk_drewN ?_ _ | refine blk_drew ?_ | refine blk_alloc ?_ _)); exact BK146.out) hb); have n2_ := Aside0.mk (blk_below (g := gb147) (o := .cells #[.bool a2_0, .int .i64 a2_1, .string a2_2] 23 (0, 0)) (by (with_reducible repeat (first | refine blk_drewN ?_ _ | refine blk_drew ?_ | refine blk_alloc ?_ _)); exact BK147.out) hb); have n3_ := Aside0.mk (below_step (by repeat (first | (with_reducible first | exact HB.out | apply below_alloc | apply pw_below_drewN | apply below_drew1 | refine below_set ?_ GE145.out | refine below_set ?_ GE146.out | refine below_set ?_ GE147.out) | exact HB.out)) hb); clear BK145; clear BK146; clear BK147; clear HB; have BK145 := n0_; have BK146 := n1_; have BK147 := n2_; have HB := n3_; clear n0_ n1_ n2_ n3_; (try clear hb); (try clear hb2); (try clear hk); (try clear hi)))
                      go_ret
                      exact ⟨by first | rfl | (simp [errW_none, errW_some] <;> rfl) | (simp [*, errW_none, errW_some] <;> rfl), by repeat (first | (with_reducible first | exact HB.out | apply below_alloc | apply pw_below_drewN | apply below_drew1 | refine below_set ?_ GE145.out | refine below_set ?_ GE146.out | refine below_set ?_ GE147.out) | exact HB.out)⟩
                  · rw [if_neg c135] at H
                    have c135b0 : decide (0 ≤ t150) = false := decide_eq_false c135
                    clear c135
                    by_cases c149 : t151 < 0
                    · rw [if_pos c149] at H
                      have c149b0 : decide (t151 < 0) = true := decide_eq_true c149
                      clear c149
                      by_cases c150 : t149 ≥ (-1)
                      · rw [if_pos c150] at H
                        have c150b0 : decide ((-1) ≤ t149) = true := decide_eq_true c150
                        clear c150
                        obtain rfl := Option.some.inj H
                        have hnb151 := NB146_145.out
                        have hnc151 := NB145_146.out
                        have hnb152 := NB146_147.out
                        have hnc152 := NB147_146.out
                        have hcz153_0 : wc.cell? ⟨gb146, 0, none⟩ = some (.bool a1_0) := (blk_cell BK146.out 0).trans rfl
                        have hcz153_1 : wc.cell? ⟨gb146, 1, none⟩ = some (.int .i64 a1_1) := (blk_cell BK146.out 1).trans rfl
                        have hcz153_2 : wc.cell? ⟨gb146, 2, none⟩ = some (.string a1_2) := (blk_cell BK146.out 2).trans rfl
                        have hfz153_0 := blk_frozen BK146.out 0
                        have hfz153_1 := blk_frozen BK146.out 1
                        have hfz153_2 := blk_frozen BK146.out 2
                        have hnb154 := NB145_147.out
                        have hnc154 := NB147_145.out
                        have hcz155_0 : wc.cell? ⟨gb145, 0, none⟩ = some (.bool a0_0) := (blk_cell BK145.out 0).trans rfl
                        have hcz155_1 : wc.cell? ⟨gb145, 1, none⟩ = some (.int .i64 a0_1) := (blk_cell BK145.out 1).trans rfl
                        have hcz155_2 : wc.cell? ⟨gb145, 2, none⟩ = some (.string a0_2) := (blk_cell BK145.out 2).trans rfl
                        have hfz155_0 := blk_frozen BK145.out 0
                        have hfz155_1 := blk_frozen BK145.out 1
                        have hfz155_2 := blk_frozen BK145.out 2
                        go_wp2_with (first | ((with_reducible refine gate_callee (f := 16) rfl ?_); refine goesL_ (some 54) rfl rfl Try.func16 (by kernel_rfl) rfl #[.agg #[.bool a1_0, .int .i64 a1_1, .string a1_2], .agg #[.bool a0_0, .int .i64 a0_1, .string a0_2]] rfl (by (try simp only [List.map_toArray, List.map_cons, List.map_nil]); first | done | rfl | (simp only [List.length_drop, List.length_take]; rfl)) ?_; (with_reducible refine (kinds_Compare_c.calls a1_0 a1_1 a1_2 a0_0 a0_1 a0_2 t152 _ A47.out).mono ?_); rintro e w156 ⟨rfl, hb⟩; refine ⟨_, rfl, ?_⟩; have n0_ := Aside0.mk (blk_below (g := gb145) (o := .cells #[.bool a0_0, .int .i64 a0_1, .string a0_2] 23 (0, 0)) (by (with_reducible repeat (first | refine blk_drewN ?_ _ | refine blk_drew ?_ | refine blk_alloc ?_ _)); exact BK145.out) hb); have n1_ := Aside0.mk (blk_below (g := gb146) (o := .cells #[.bool a1_0, .int .i64 a1_1, .string a1_2] 23 (0, 0)) (by (with_reducible repeat (first | refine blk_drewN ?_ _ | refine blk_drew ?_ | refine blk_alloc ?_ _)); exact BK146.out) hb); have n2_ := Aside0.mk (blk_below (g := gb147) (o := .cells #[.bool a2_0, .int .i64 a2_1, .string a2_2] 23 (0, 0)) (by (with_reducible repeat (first | refine blk_drewN ?_ _ | refine blk_drew ?_ | refine blk_alloc ?_ _)); exact BK147.out) hb); have n3_ := Aside0.mk (below_step (by repeat (first | (with_reducible first | exact HB.out | apply below_alloc | apply pw_below_drewN | apply below_drew1 | refine below_set ?_ GE145.out | refine below_set ?_ GE146.out | refine below_set ?_ GE147.out) | exact HB.out)) hb); clear BK145; clear BK146; clear BK147; clear HB; have BK145 := n0_; have BK146 := n1_; have BK147 := n2_; have HB := n3_; clear n0_ n1_ n2_ n3_; (try clear hb); (try clear hb2); (try clear hk); (try clear hi)))
                        go_ret
                        exact ⟨by first | rfl | (simp [errW_none, errW_some] <;> rfl) | (simp [*, errW_none, errW_some] <;> rfl), by repeat (first | (with_reducible first | exact HB.out | apply below_alloc | apply pw_below_drewN | apply below_drew1 | refine below_set ?_ GE145.out | refine below_set ?_ GE146.out | refine below_set ?_ GE147.out) | exact HB.out)⟩
                      · rw [if_neg c150] at H
                        have c150b0 : decide ((-1) ≤ t149) = false := decide_eq_false c150
                        clear c150
                        obtain rfl := Option.some.inj H
                        have hnb157 := NB146_145.out
                        have hnc157 := NB145_146.out
                        have hnb158 := NB146_147.out
                        have hnc158 := NB147_146.out
                        have hcz159_0 : wc.cell? ⟨gb146, 0, none⟩ = some (.bool a1_0) := (blk_cell BK146.out 0).trans rfl
                        have hcz159_1 : wc.cell? ⟨gb146, 1, none⟩ = some (.int .i64 a1_1) := (blk_cell BK146.out 1).trans rfl
                        have hcz159_2 : wc.cell? ⟨gb146, 2, none⟩ = some (.string a1_2) := (blk_cell BK146.out 2).trans rfl
                        have hfz159_0 := blk_frozen BK146.out 0
                        have hfz159_1 := blk_frozen BK146.out 1
                        have hfz159_2 := blk_frozen BK146.out 2
                        have hnb160 := NB145_147.out
                        have hnc160 := NB147_145.out
                        have hcz161_0 : wc.cell? ⟨gb145, 0, none⟩ = some (.bool a0_0) := (blk_cell BK145.out 0).trans rfl
                        have hcz161_1 : wc.cell? ⟨gb145, 1, none⟩ = some (.int .i64 a0_1) := (blk_cell BK145.out 1).trans rfl
                        have hcz161_2 : wc.cell? ⟨gb145, 2, none⟩ = some (.string a0_2) := (blk_cell BK145.out 2).trans rfl
                        have hfz161_0 := blk_frozen BK145.out 0
                        have hfz161_1 := blk_frozen BK145.out 1
                        have hfz161_2 := blk_frozen BK145.out 2
                        go_wp2_with (first | ((with_reducible refine gate_callee (f := 16) rfl ?_); refine goesL_ (some 54) rfl rfl Try.func16 (by kernel_rfl) rfl #[.agg #[.bool a1_0, .int .i64 a1_1, .string a1_2], .agg #[.bool a0_0, .int .i64 a0_1, .string a0_2]] rfl (by (try simp only [List.map_toArray, List.map_cons, List.map_nil]); first | done | rfl | (simp only [List.length_drop, List.length_take]; rfl)) ?_; (with_reducible refine (kinds_Compare_c.calls a1_0 a1_1 a1_2 a0_0 a0_1 a0_2 t152 _ A47.out).mono ?_); rintro e w162 ⟨rfl, hb⟩; refine ⟨_, rfl, ?_⟩; have n0_ := Aside0.mk (blk_below (g := gb145) (o := .cells #[.bool a0_0, .int .i64 a0_1, .string a0_2] 23 (0, 0)) (by (with_reducible repeat (first | refine blk_drewN ?_ _ | refine blk_drew ?_ | refine blk_alloc ?_ _)); exact BK145.out) hb); have n1_ := Aside0.mk (blk_below (g := gb146) (o := .cells #[.bool a1_0, .int .i64 a1_1, .string a1_2] 23 (0, 0)) (by (with_reducible repeat (first | refine blk_drewN ?_ _ | refine blk_drew ?_ | refine blk_alloc ?_ _)); exact BK146.out) hb); have n2_ := Aside0.mk (blk_below (g := gb147) (o := .cells #[.bool a2_0, .int .i64 a2_1, .string a2_2] 23 (0, 0)) (by (with_reducible repeat (first | refine blk_drewN ?_ _ | refine blk_drew ?_ | refine blk_alloc ?_ _)); exact BK147.out) hb); have n3_ := Aside0.mk (below_step (by repeat (first | (with_reducible first | exact HB.out | apply below_alloc | apply pw_below_drewN | apply below_drew1 | refine below_set ?_ GE145.out | refine below_set ?_ GE146.out | refine below_set ?_ GE147.out) | exact HB.out)) hb); clear BK145; clear BK146; clear BK147; clear HB; have BK145 := n0_; have BK146 := n1_; have BK147 := n2_; have HB := n3_; clear n0_ n1_ n2_ n3_; (try clear hb); (try clear hb2); (try clear hk); (try clear hi)))
                        go_ret
                        exact ⟨by first | rfl | (simp [errW_none, errW_some] <;> rfl) | (simp [*, errW_none, errW_some] <;> rfl), by repeat (first | (with_reducible first | exact HB.out | apply below_alloc | apply pw_below_drewN | apply below_drew1 | refine below_set ?_ GE145.out | refine below_set ?_ GE146.out | refine below_set ?_ GE147.out) | exact HB.out)⟩
                    · rw [if_neg c149] at H
                      have c149b0 : decide (t151 < 0) = false := decide_eq_false c149
                      clear c149
                      obtain rfl := Option.some.inj H
                      have hnb163 := NB146_145.out
                      have hnc163 := NB145_146.out
                      have hnb164 := NB146_147.out
                      have hnc164 := NB147_146.out
                      have hcz165_0 : wc.cell? ⟨gb146, 0, none⟩ = some (.bool a1_0) := (blk_cell BK146.out 0).trans rfl
                      have hcz165_1 : wc.cell? ⟨gb146, 1, none⟩ = some (.int .i64 a1_1) := (blk_cell BK146.out 1).trans rfl
                      have hcz165_2 : wc.cell? ⟨gb146, 2, none⟩ = some (.string a1_2) := (blk_cell BK146.out 2).trans rfl
                      have hfz165_0 := blk_frozen BK146.out 0
                      have hfz165_1 := blk_frozen BK146.out 1
                      have hfz165_2 := blk_frozen BK146.out 2
                      have hnb166 := NB145_147.out
                      have hnc166 := NB147_145.out
                      have hcz167_0 : wc.cell? ⟨gb145, 0, none⟩ = some (.bool a0_0) := (blk_cell BK145.out 0).trans rfl
                      have hcz167_1 : wc.cell? ⟨gb145, 1, none⟩ = some (.int .i64 a0_1) := (blk_cell BK145.out 1).trans rfl
                      have hcz167_2 : wc.cell? ⟨gb145, 2, none⟩ = some (.string a0_2) := (blk_cell BK145.out 2).trans rfl
                      have hfz167_0 := blk_frozen BK145.out 0
                      have hfz167_1 := blk_frozen BK145.out 1
                      have hfz167_2 := blk_frozen BK145.out 2
                      go_wp2_with (first | ((with_reducible refine gate_callee (f := 16) rfl ?_); refine goesL_ (some 54) rfl rfl Try.func16 (by kernel_rfl) rfl #[.agg #[.bool a1_0, .int .i64 a1_1, .string a1_2], .agg #[.bool a0_0, .int .i64 a0_1, .string a0_2]] rfl (by (try simp only [List.map_toArray, List.map_cons, List.map_nil]); first | done | rfl | (simp only [List.length_drop, List.length_take]; rfl)) ?_; (with_reducible refine (kinds_Compare_c.calls a1_0 a1_1 a1_2 a0_0 a0_1 a0_2 t152 _ A47.out).mono ?_); rintro e w168 ⟨rfl, hb⟩; refine ⟨_, rfl, ?_⟩; have n0_ := Aside0.mk (blk_below (g := gb145) (o := .cells #[.bool a0_0, .int .i64 a0_1, .string a0_2] 23 (0, 0)) (by (with_reducible repeat (first | refine blk_drewN ?_ _ | refine blk_drew ?_ | refine blk_alloc ?_ _)); exact BK145.out) hb); have n1_ := Aside0.mk (blk_below (g := gb146) (o := .cells #[.bool a1_0, .int .i64 a1_1, .string a1_2] 23 (0, 0)) (by (with_reducible repeat (first | refine blk_drewN ?_ _ | refine blk_drew ?_ | refine blk_alloc ?_ _)); exact BK146.out) hb); have n2_ := Aside0.mk (blk_below (g := gb147) (o := .cells #[.bool a2_0, .int .i64 a2_1, .string a2_2] 23 (0, 0)) (by (with_reducible repeat (first | refine blk_drewN ?_ _ | refine blk_drew ?_ | refine blk_alloc ?_ _)); exact BK147.out) hb); have n3_ := Aside0.mk (below_step (by repeat (first | (with_reducible first | exact HB.out | apply below_alloc | apply pw_below_drewN | apply below_drew1 | refine below_set ?_ GE145.out | refine below_set ?_ GE146.out | refine below_set ?_ GE147.out) | exact HB.out)) hb); clear BK145; clear BK146; clear BK147; clear HB; have BK145 := n0_; have BK146 := n1_; have BK147 := n2_; have HB := n3_; clear n0_ n1_ n2_ n3_; (try clear hb); (try clear hb2); (try clear hk); (try clear hi)))
                      go_ret
                      exact ⟨by first | rfl | (simp [errW_none, errW_some] <;> rfl) | (simp [*, errW_none, errW_some] <;> rfl), by repeat (first | (with_reducible first | exact HB.out | apply below_alloc | apply pw_below_drewN | apply below_drew1 | refine below_set ?_ GE145.out | refine below_set ?_ GE146.out | refine below_set ?_ GE147.out) | exact HB.out)⟩
              · rw [if_neg c99] at H
                have c99b0 : decide (0 < t150) = false := decide_eq_false c99
                clear c99
                by_cases c169 : t151 ≤ 0
                · rw [if_pos c169] at H
                  have c169b0 : decide (t151 ≤ 0) = true := decide_eq_true c169
                  clear c169
                  by_cases c170 : t149 ≥ 0
                  · rw [if_pos c170] at H
                    have c170b0 : decide (0 ≤ t149) = true := decide_eq_true c170
                    clear c170
                    by_cases c171 : t150 ≥ 0
                    · rw [if_pos c171] at H
                      have c171b0 : decide (0 ≤ t150) = true := decide_eq_true c171
                      clear c171
                      by_cases c172 : t149 ≥ (-1)
                      · rw [if_pos c172] at H
                        have c172b0 : decide ((-1) ≤ t149) = true := decide_eq_true c172
                        clear c172
                        obtain rfl := Option.some.inj H
                        have hnb173 := NB146_145.out
                        have hnc173 := NB145_146.out
                        have hnb174 := NB146_147.out
                        have hnc174 := NB147_146.out
                        have hcz175_0 : wc.cell? ⟨gb146, 0, none⟩ = some (.bool a1_0) := (blk_cell BK146.out 0).trans rfl
                        have hcz175_1 : wc.cell? ⟨gb146, 1, none⟩ = some (.int .i64 a1_1) := (blk_cell BK146.out 1).trans rfl
                        have hcz175_2 : wc.cell? ⟨gb146, 2, none⟩ = some (.string a1_2) := (blk_cell BK146.out 2).trans rfl
                        have hfz175_0 := blk_frozen BK146.out 0
                        have hfz175_1 := blk_frozen BK146.out 1
                        have hfz175_2 := blk_frozen BK146.out 2
                        have hnb176 := NB145_147.out
                        have hnc176 := NB147_145.out
                        have hcz177_0 : wc.cell? ⟨gb145, 0, none⟩ = some (.bool a0_0) := (blk_cell BK145.out 0).trans rfl
                        have hcz177_1 : wc.cell? ⟨gb145, 1, none⟩ = some (.int .i64 a0_1) := (blk_cell BK145.out 1).trans rfl
                        have hcz177_2 : wc.cell? ⟨gb145, 2, none⟩ = some (.string a0_2) := (blk_cell BK145.out 2).trans rfl
                        have hfz177_0 := blk_frozen BK145.out 0
                        have hfz177_1 := blk_frozen BK145.out 1
                        have hfz177_2 := blk_frozen BK145.out 2
                        go_wp2_with (first | ((with_reducible refine gate_callee (f := 16) rfl ?_); refine goesL_ (some 54) rfl rfl Try.func16 (by kernel_rfl) rfl #[.agg #[.bool a1_0, .int .i64 a1_1, .string a1_2], .agg #[.bool a0_0, .int .i64 a0_1, .string a0_2]] rfl (by (try simp only [List.map_toArray, List.map_cons, List.map_nil]); first | done | rfl | (simp only [List.length_drop, List.length_take]; rfl)) ?_; (with_reducible refine (kinds_Compare_c.calls a1_0 a1_1 a1_2 a0_0 a0_1 a0_2 t152 _ A47.out).mono ?_); rintro e w178 ⟨rfl, hb⟩; refine ⟨_, rfl, ?_⟩; have n0_ := Aside0.mk (blk_below (g := gb145) (o := .cells #[.bool a0_0, .int .i64 a0_1, .string a0_2] 23 (0, 0)) (by (with_reducible repeat (first | refine blk_drewN ?_ _ | refine blk_drew ?_ | refine blk_alloc ?_ _)); exact BK145.out) hb); have n1_ := Aside0.mk (blk_below (g := gb146) (o := .cells #[.bool a1_0, .int .i64 a1_1, .string a1_2] 23 (0, 0)) (by (with_reducible repeat (first | refine blk_drewN ?_ _ | refine blk_drew ?_ | refine blk_alloc ?_ _)); exact BK146.out) hb); have n2_ := Aside0.mk (blk_below (g := gb147) (o := .cells #[.bool a2_0, .int .i64 a2_1, .string a2_2] 23 (0, 0)) (by (with_reducible repeat (first | refine blk_drewN ?_ _ | refine blk_drew ?_ | refine blk_alloc ?_ _)); exact BK147.out) hb); have n3_ := Aside0.mk (below_step (by repeat (first | (with_reducible first | exact HB.out | apply below_alloc | apply pw_below_drewN | apply below_drew1 | refine below_set ?_ GE145.out | refine below_set ?_ GE146.out | refine below_set ?_ GE147.out) | exact HB.out)) hb); clear BK145; clear BK146; clear BK147; clear HB; have BK145 := n0_; have BK146 := n1_; have BK147 := n2_; have HB := n3_; clear n0_ n1_ n2_ n3_; (try clear hb); (try clear hb2); (try clear hk); (try clear hi)))
                        go_ret
                        exact ⟨by first | rfl | (simp [errW_none, errW_some] <;> rfl) | (simp [*, errW_none, errW_some] <;> rfl), by repeat (first | (with_reducible first | exact HB.out | apply below_alloc | apply pw_below_drewN | apply below_drew1 | refine below_set ?_ GE145.out | refine below_set ?_ GE146.out | refine below_set ?_ GE147.out) | exact HB.out)⟩
                      · rw [if_neg c172] at H
                        have c172b0 : decide ((-1) ≤ t149) = false := decide_eq_false c172
                        clear c172
                        obtain rfl := Option.some.inj H
                        have hnb179 := NB146_145.out
                        have hnc179 := NB145_146.out
                        have hnb180 := NB146_147.out
                        have hnc180 := NB147_146.out
                        have hcz181_0 : wc.cell? ⟨gb146, 0, none⟩ = some (.bool a1_0) := (blk_cell BK146.out 0).trans rfl
                        have hcz181_1 : wc.cell? ⟨gb146, 1, none⟩ = some (.int .i64 a1_1) := (blk_cell BK146.out 1).trans rfl
                        have hcz181_2 : wc.cell? ⟨gb146, 2, none⟩ = some (.string a1_2) := (blk_cell BK146.out 2).trans rfl
                        have hfz181_0 := blk_frozen BK146.out 0
                        have hfz181_1 := blk_frozen BK146.out 1
                        have hfz181_2 := blk_frozen BK146.out 2
                        have hnb182 := NB145_147.out
                        have hnc182 := NB147_145.out
                        have hcz183_0 : wc.cell? ⟨gb145, 0, none⟩ = some (.bool a0_0) := (blk_cell BK145.out 0).trans rfl
                        have hcz183_1 : wc.cell? ⟨gb145, 1, none⟩ = some (.int .i64 a0_1) := (blk_cell BK145.out 1).trans rfl
                        have hcz183_2 : wc.cell? ⟨gb145, 2, none⟩ = some (.string a0_2) := (blk_cell BK145.out 2).trans rfl
                        have hfz183_0 := blk_frozen BK145.out 0
                        have hfz183_1 := blk_frozen BK145.out 1
                        have hfz183_2 := blk_frozen BK145.out 2
                        go_wp2_with (first | ((with_reducible refine gate_callee (f := 16) rfl ?_); refine goesL_ (some 54) rfl rfl Try.func16 (by kernel_rfl) rfl #[.agg #[.bool a1_0, .int .i64 a1_1, .string a1_2], .agg #[.bool a0_0, .int .i64 a0_1, .string a0_2]] rfl (by (try simp only [List.map_toArray, List.map_cons, List.map_nil]); first | done | rfl | (simp only [List.length_drop, List.length_take]; rfl)) ?_; (with_reducible refine (kinds_Compare_c.calls a1_0 a1_1 a1_2 a0_0 a0_1 a0_2 t152 _ A47.out).mono ?_); rintro e w184 ⟨rfl, hb⟩; refine ⟨_, rfl, ?_⟩; have n0_ := Aside0.mk (blk_below (g := gb145) (o := .cells #[.bool a0_0, .int .i64 a0_1, .string a0_2] 23 (0, 0)) (by (with_reducible repeat (first | refine blk_drewN ?_ _ | refine blk_drew ?_ | refine blk_alloc ?_ _)); exact BK145.out) hb); have n1_ := Aside0.mk (blk_below (g := gb146) (o := .cells #[.bool a1_0, .int .i64 a1_1, .string a1_2] 23 (0, 0)) (by (with_reducible repeat (first | refine blk_drewN ?_ _ | refine blk_drew ?_ | refine blk_alloc ?_ _)); exact BK146.out) hb); have n2_ := Aside0.mk (blk_below (g := gb147) (o := .cells #[.bool a2_0, .int .i64 a2_1, .string a2_2] 23 (0, 0)) (by (with_reducible repeat (first | refine blk_drewN ?_ _ | refine blk_drew ?_ | refine blk_alloc ?_ _)); exact BK147.out) hb); have n3_ := Aside0.mk (below_step (by repeat (first | (with_reducible first | exact HB.out | apply below_alloc | apply pw_below_drewN | apply below_drew1 | refine below_set ?_ GE145.out | refine below_set ?_ GE146.out | refine below_set ?_ GE147.out) | exact HB.out)) hb); clear BK145; clear BK146; clear BK147; clear HB; have BK145 := n0_; have BK146 := n1_; have BK147 := n2_; have HB := n3_; clear n0_ n1_ n2_ n3_; (try clear hb); (try clear hb2); (try clear hk); (try clear hi)))
                        go_ret
                        exact ⟨by first | rfl | (simp [errW_none, errW_some] <;> rfl) | (simp [*, errW_none, errW_some] <;> rfl), by repeat (first | (with_reducible first | exact HB.out | apply below_alloc | apply pw_below_drewN | apply below_drew1 | refine below_set ?_ GE145.out | refine below_set ?_ GE146.out | refine below_set ?_ GE147.out) | exact HB.out)⟩
                    · rw [if_neg c171] at H
                      have c171b0 : decide (0 ≤ t150) = false := decide_eq_false c171
                      clear c171
                      by_cases c185 : t151 < 0
                      · rw [if_pos c185] at H
                        have c185b0 : decide (t151 < 0) = true := decide_eq_true c185
                        clear c185
                        by_cases c186 : t149 ≥ (-1)
                        · rw [if_pos c186] at H
                          have c186b0 : decide ((-1) ≤ t149) = true := decide_eq_true c186
                          clear c186
                          obtain rfl := Option.some.inj H
                          have hnb187 := NB146_145.out
                          have hnc187 := NB145_146.out
                          have hnb188 := NB146_147.out
                          have hnc188 := NB147_146.out
                          have hcz189_0 : wc.cell? ⟨gb146, 0, none⟩ = some (.bool a1_0) := (blk_cell BK146.out 0).trans rfl
                          have hcz189_1 : wc.cell? ⟨gb146, 1, none⟩ = some (.int .i64 a1_1) := (blk_cell BK146.out 1).trans rfl
                          have hcz189_2 : wc.cell? ⟨gb146, 2, none⟩ = some (.string a1_2) := (blk_cell BK146.out 2).trans rfl
                          have hfz189_0 := blk_frozen BK146.out 0
                          have hfz189_1 := blk_frozen BK146.out 1
                          have hfz189_2 := blk_frozen BK146.out 2
                          have hnb190 := NB145_147.out
                          have hnc190 := NB147_145.out
                          have hcz191_0 : wc.cell? ⟨gb145, 0, none⟩ = some (.bool a0_0) := (blk_cell BK145.out 0).trans rfl
                          have hcz191_1 : wc.cell? ⟨gb145, 1, none⟩ = some (.int .i64 a0_1) := (blk_cell BK145.out 1).trans rfl
                          have hcz191_2 : wc.cell? ⟨gb145, 2, none⟩ = some (.string a0_2) := (blk_cell BK145.out 2).trans rfl
                          have hfz191_0 := blk_frozen BK145.out 0
                          have hfz191_1 := blk_frozen BK145.out 1
                          have hfz191_2 := blk_frozen BK145.out 2
                          go_wp2_with (first | ((with_reducible refine gate_callee (f := 16) rfl ?_); refine goesL_ (some 54) rfl rfl Try.func16 (by kernel_rfl) rfl #[.agg #[.bool a1_0, .int .i64 a1_1, .string a1_2], .agg #[.bool a0_0, .int .i64 a0_1, .string a0_2]] rfl (by (try simp only [List.map_toArray, List.map_cons, List.map_nil]); first | done | rfl | (simp only [List.length_drop, List.length_take]; rfl)) ?_; (with_reducible refine (kinds_Compare_c.calls a1_0 a1_1 a1_2 a0_0 a0_1 a0_2 t152 _ A47.out).mono ?_); rintro e w192 ⟨rfl, hb⟩; refine ⟨_, rfl, ?_⟩; have n0_ := Aside0.mk (blk_below (g := gb145) (o := .cells #[.bool a0_0, .int .i64 a0_1, .string a0_2] 23 (0, 0)) (by (with_reducible repeat (first | refine blk_drewN ?_ _ | refine blk_drew ?_ | refine blk_alloc ?_ _)); exact BK145.out) hb); have n1_ := Aside0.mk (blk_below (g := gb146) (o := .cells #[.bool a1_0, .int .i64 a1_1, .string a1_2] 23 (0, 0)) (by (with_reducible repeat (first | refine blk_drewN ?_ _ | refine blk_drew ?_ | refine blk_alloc ?_ _)); exact BK146.out) hb); have n2_ := Aside0.mk (blk_below (g := gb147) (o := .cells #[.bool a2_0, .int .i64 a2_1, .string a2_2] 23 (0, 0)) (by (with_reducible repeat (first | refine blk_drewN ?_ _ | refine blk_drew ?_ | refine blk_alloc ?_ _)); exact BK147.out) hb); have n3_ := Aside0.mk (below_step (by repeat (first | (with_reducible first | exact HB.out | apply below_alloc | apply pw_below_drewN | apply below_drew1 | refine below_set ?_ GE145.out | refine below_set ?_ GE146.out | refine below_set ?_ GE147.out) | exact HB.out)) hb); clear BK145; clear BK146; clear BK147; clear HB; have BK145 := n0_; have BK146 := n1_; have BK147 := n2_; have HB := n3_; clear n0_ n1_ n2_ n3_; (try clear hb); (try clear hb2); (try clear hk); (try clear hi)))
                          go_ret
                          exact ⟨by first | rfl | (simp [errW_none, errW_some] <;> rfl) | (simp [*, errW_none, errW_some] <;> rfl), by repeat (first | (with_reducible first | exact HB.out | apply below_alloc | apply pw_below_drewN | apply below_drew1 | refine below_set ?_ GE145.out | refine below_set ?_ GE146.out | refine below_set ?_ GE147.out) | exact HB.out)⟩
                        · rw [if_neg c186] at H
                          have c186b0 : decide ((-1) ≤ t149) = false := decide_eq_false c186
                          clear c186
                          obtain rfl := Option.some.inj H
                          have hnb193 := NB146_145.out
                          have hnc193 := NB145_146.out
                          have hnb194 := NB146_147.out
                          have hnc194 := NB147_146.out
                          have hcz195_0 : wc.cell? ⟨gb146, 0, none⟩ = some (.bool a1_0) := (blk_cell BK146.out 0).trans rfl
                          have hcz195_1 : wc.cell? ⟨gb146, 1, none⟩ = some (.int .i64 a1_1) := (blk_cell BK146.out 1).trans rfl
                          have hcz195_2 : wc.cell? ⟨gb146, 2, none⟩ = some (.string a1_2) := (blk_cell BK146.out 2).trans rfl
                          have hfz195_0 := blk_frozen BK146.out 0
                          have hfz195_1 := blk_frozen BK146.out 1
                          have hfz195_2 := blk_frozen BK146.out 2
                          have hnb196 := NB145_147.out
                          have hnc196 := NB147_145.out
                          have hcz197_0 : wc.cell? ⟨gb145, 0, none⟩ = some (.bool a0_0) := (blk_cell BK145.out 0).trans rfl
                          have hcz197_1 : wc.cell? ⟨gb145, 1, none⟩ = some (.int .i64 a0_1) := (blk_cell BK145.out 1).trans rfl
                          have hcz197_2 : wc.cell? ⟨gb145, 2, none⟩ = some (.string a0_2) := (blk_cell BK145.out 2).trans rfl
                          have hfz197_0 := blk_frozen BK145.out 0
                          have hfz197_1 := blk_frozen BK145.out 1
                          have hfz197_2 := blk_frozen BK145.out 2
                          go_wp2_with (first | ((with_reducible refine gate_callee (f := 16) rfl ?_); refine goesL_ (some 54) rfl rfl Try.func16 (by kernel_rfl) rfl #[.agg #[.bool a1_0, .int .i64 a1_1, .string a1_2], .agg #[.bool a0_0, .int .i64 a0_1, .string a0_2]] rfl (by (try simp only [List.map_toArray, List.map_cons, List.map_nil]); first | done | rfl | (simp only [List.length_drop, List.length_take]; rfl)) ?_; (with_reducible refine (kinds_Compare_c.calls a1_0 a1_1 a1_2 a0_0 a0_1 a0_2 t152 _ A47.out).mono ?_); rintro e w198 ⟨rfl, hb⟩; refine ⟨_, rfl, ?_⟩; have n0_ := Aside0.mk (blk_below (g := gb145) (o := .cells #[.bool a0_0, .int .i64 a0_1, .string a0_2] 23 (0, 0)) (by (with_reducible repeat (first | refine blk_drewN ?_ _ | refine blk_drew ?_ | refine blk_alloc ?_ _)); exact BK145.out) hb); have n1_ := Aside0.mk (blk_below (g := gb146) (o := .cells #[.bool a1_0, .int .i64 a1_1, .string a1_2] 23 (0, 0)) (by (with_reducible repeat (first | refine blk_drewN ?_ _ | refine blk_drew ?_ | refine blk_alloc ?_ _)); exact BK146.out) hb); have n2_ := Aside0.mk (blk_below (g := gb147) (o := .cells #[.bool a2_0, .int .i64 a2_1, .string a2_2] 23 (0, 0)) (by (with_reducible repeat (first | refine blk_drewN ?_ _ | refine blk_drew ?_ | refine blk_alloc ?_ _)); exact BK147.out) hb); have n3_ := Aside0.mk (below_step (by repeat (first | (with_reducible first | exact HB.out | apply below_alloc | apply pw_below_drewN | apply below_drew1 | refine below_set ?_ GE145.out | refine below_set ?_ GE146.out | refine below_set ?_ GE147.out) | exact HB.out)) hb); clear BK145; clear BK146; clear BK147; clear HB; have BK145 := n0_; have BK146 := n1_; have BK147 := n2_; have HB := n3_; clear n0_ n1_ n2_ n3_; (try clear hb); (try clear hb2); (try clear hk); (try clear hi)))
                          go_ret
                          exact ⟨by first | rfl | (simp [errW_none, errW_some] <;> rfl) | (simp [*, errW_none, errW_some] <;> rfl), by repeat (first | (with_reducible first | exact HB.out | apply below_alloc | apply pw_below_drewN | apply below_drew1 | refine below_set ?_ GE145.out | refine below_set ?_ GE146.out | refine below_set ?_ GE147.out) | exact HB.out)⟩
                      · rw [if_neg c185] at H
                        have c185b0 : decide (t151 < 0) = false := decide_eq_false c185
                        clear c185
                        obtain rfl := Option.some.inj H
                        have hnb199 := NB146_145.out
                        have hnc199 := NB145_146.out
                        have hnb200 := NB146_147.out
                        have hnc200 := NB147_146.out
                        have hcz201_0 : wc.cell? ⟨gb146, 0, none⟩ = some (.bool a1_0) := (blk_cell BK146.out 0).trans rfl
                        have hcz201_1 : wc.cell? ⟨gb146, 1, none⟩ = some (.int .i64 a1_1) := (blk_cell BK146.out 1).trans rfl
                        have hcz201_2 : wc.cell? ⟨gb146, 2, none⟩ = some (.string a1_2) := (blk_cell BK146.out 2).trans rfl
                        have hfz201_0 := blk_frozen BK146.out 0
                        have hfz201_1 := blk_frozen BK146.out 1
                        have hfz201_2 := blk_frozen BK146.out 2
                        have hnb202 := NB145_147.out
                        have hnc202 := NB147_145.out
                        have hcz203_0 : wc.cell? ⟨gb145, 0, none⟩ = some (.bool a0_0) := (blk_cell BK145.out 0).trans rfl
                        have hcz203_1 : wc.cell? ⟨gb145, 1, none⟩ = some (.int .i64 a0_1) := (blk_cell BK145.out 1).trans rfl
                        have hcz203_2 : wc.cell? ⟨gb145, 2, none⟩ = some (.string a0_2) := (blk_cell BK145.out 2).trans rfl
                        have hfz203_0 := blk_frozen BK145.out 0
                        have hfz203_1 := blk_frozen BK145.out 1
                        have hfz203_2 := blk_frozen BK145.out 2
                        go_wp2_with (first | ((with_reducible refine gate_callee (f := 16) rfl ?_); refine goesL_ (some 54) rfl rfl Try.func16 (by kernel_rfl) rfl #[.agg #[.bool a1_0, .int .i64 a1_1, .string a1_2], .agg #[.bool a0_0, .int .i64 a0_1, .string a0_2]] rfl (by (try simp only [List.map_toArray, List.map_cons, List.map_nil]); first | done | rfl | (simp only [List.length_drop, List.length_take]; rfl)) ?_; (with_reducible refine (kinds_Compare_c.calls a1_0 a1_1 a1_2 a0_0 a0_1 a0_2 t152 _ A47.out).mono ?_); rintro e w204 ⟨rfl, hb⟩; refine ⟨_, rfl, ?_⟩; have n0_ := Aside0.mk (blk_below (g := gb145) (o := .cells #[.bool a0_0, .int .i64 a0_1, .string a0_2] 23 (0, 0)) (by (with_reducible repeat (first | refine blk_drewN ?_ _ | refine blk_drew ?_ | refine blk_alloc ?_ _)); exact BK145.out) hb); have n1_ := Aside0.mk (blk_below (g := gb146) (o := .cells #[.bool a1_0, .int .i64 a1_1, .string a1_2] 23 (0, 0)) (by (with_reducible repeat (first | refine blk_drewN ?_ _ | refine blk_drew ?_ | refine blk_alloc ?_ _)); exact BK146.out) hb); have n2_ := Aside0.mk (blk_below (g := gb147) (o := .cells #[.bool a2_0, .int .i64 a2_1, .string a2_2] 23 (0, 0)) (by (with_reducible repeat (first | refine blk_drewN ?_ _ | refine blk_drew ?_ | refine blk_alloc ?_ _)); exact BK147.out) hb); have n3_ := Aside0.mk (below_step (by repeat (first | (with_reducible first | exact HB.out | apply below_alloc | apply pw_below_drewN | apply below_drew1 | refine below_set ?_ GE145.out | refine below_set ?_ GE146.out | refine below_set ?_ GE147.out) | exact HB.out)) hb); clear BK145; clear BK146; clear BK147; clear HB; have BK145 := n0_; have BK146 := n1_; have BK147 := n2_; have HB := n3_; clear n0_ n1_ n2_ n3_; (try clear hb); (try clear hb2); (try clear hk); (try clear hi)))
                        go_ret
                        exact ⟨by first | rfl | (simp [errW_none, errW_some] <;> rfl) | (simp [*, errW_none, errW_some] <;> rfl), by repeat (first | (with_reducible first | exact HB.out | apply below_alloc | apply pw_below_drewN | apply below_drew1 | refine below_set ?_ GE145.out | refine below_set ?_ GE146.out | refine below_set ?_ GE147.out) | exact HB.out)⟩
                  · rw [if_neg c170] at H
                    have c170b0 : decide (0 ≤ t149) = false := decide_eq_false c170
                    clear c170
                    by_cases c205 : t151 < 0
                    · rw [if_pos c205] at H
                      have c205b0 : decide (t151 < 0) = true := decide_eq_true c205
                      clear c205
                      by_cases c206 : t150 ≥ 0
                      · rw [if_pos c206] at H
                        have c206b0 : decide (0 ≤ t150) = true := decide_eq_true c206
                        clear c206
                        by_cases c207 : t149 ≥ (-1)
                        · rw [if_pos c207] at H
                          have c207b0 : decide ((-1) ≤ t149) = true := decide_eq_true c207
                          clear c207
                          obtain rfl := Option.some.inj H
                          have hnb208 := NB146_145.out
                          have hnc208 := NB145_146.out
                          have hnb209 := NB146_147.out
                          have hnc209 := NB147_146.out
                          have hcz210_0 : wc.cell? ⟨gb146, 0, none⟩ = some (.bool a1_0) := (blk_cell BK146.out 0).trans rfl
                          have hcz210_1 : wc.cell? ⟨gb146, 1, none⟩ = some (.int .i64 a1_1) := (blk_cell BK146.out 1).trans rfl
                          have hcz210_2 : wc.cell? ⟨gb146, 2, none⟩ = some (.string a1_2) := (blk_cell BK146.out 2).trans rfl
                          have hfz210_0 := blk_frozen BK146.out 0
                          have hfz210_1 := blk_frozen BK146.out 1
                          have hfz210_2 := blk_frozen BK146.out 2
                          have hnb211 := NB145_147.out
                          have hnc211 := NB147_145.out
                          have hcz212_0 : wc.cell? ⟨gb145, 0, none⟩ = some (.bool a0_0) := (blk_cell BK145.out 0).trans rfl
                          have hcz212_1 : wc.cell? ⟨gb145, 1, none⟩ = some (.int .i64 a0_1) := (blk_cell BK145.out 1).trans rfl
                          have hcz212_2 : wc.cell? ⟨gb145, 2, none⟩ = some (.string a0_2) := (blk_cell BK145.out 2).trans rfl
                          have hfz212_0 := blk_frozen BK145.out 0
                          have hfz212_1 := blk_frozen BK145.out 1
                          have hfz212_2 := blk_frozen BK145.out 2
                          go_wp2_with (first | ((with_reducible refine gate_callee (f := 16) rfl ?_); refine goesL_ (some 54) rfl rfl Try.func16 (by kernel_rfl) rfl #[.agg #[.bool a1_0, .int .i64 a1_1, .string a1_2], .agg #[.bool a0_0, .int .i64 a0_1, .string a0_2]] rfl (by (try simp only [List.map_toArray, List.map_cons, List.map_nil]); first | done | rfl | (simp only [List.length_drop, List.length_take]; rfl)) ?_; (with_reducible refine (kinds_Compare_c.calls a1_0 a1_1 a1_2 a0_0 a0_1 a0_2 t152 _ A47.out).mono ?_); rintro e w213 ⟨rfl, hb⟩; refine ⟨_, rfl, ?_⟩; have n0_ := Aside0.mk (blk_below (g := gb145) (o := .cells #[.bool a0_0, .int .i64 a0_1, .string a0_2] 23 (0, 0)) (by (with_reducible repeat (first | refine blk_drewN ?_ _ | refine blk_drew ?_ | refine blk_alloc ?_ _)); exact BK145.out) hb); have n1_ := Aside0.mk (blk_below (g := gb146) (o := .cells #[.bool a1_0, .int .i64 a1_1, .string a1_2] 23 (0, 0)) (by (with_reducible repeat (first | refine blk_drewN ?_ _ | refine blk_drew ?_ | refine blk_alloc ?_ _)); exact BK146.out) hb); have n2_ := Aside0.mk (blk_below (g := gb147) (o := .cells #[.bool a2_0, .int .i64 a2_1, .string a2_2] 23 (0, 0)) (by (with_reducible repeat (first | refine blk_drewN ?_ _ | refine blk_drew ?_ | refine blk_alloc ?_ _)); exact BK147.out) hb); have n3_ := Aside0.mk (below_step (by repeat (first | (with_reducible first | exact HB.out | apply below_alloc | apply pw_below_drewN | apply below_drew1 | refine below_set ?_ GE145.out | refine below_set ?_ GE146.out | refine below_set ?_ GE147.out) | exact HB.out)) hb); clear BK145; clear BK146; clear BK147; clear HB; have BK145 := n0_; have BK146 := n1_; have BK147 := n2_; have HB := n3_; clear n0_ n1_ n2_ n3_; (try clear hb); (try clear hb2); (try clear hk); (try clear hi)))
                          go_ret
                          exact ⟨by first | rfl | (simp [errW_none, errW_some] <;> rfl) | (simp [*, errW_none, errW_some] <;> rfl), by repeat (first | (with_reducible first | exact HB.out | apply below_alloc | apply pw_below_drewN | apply below_drew1 | refine below_set ?_ GE145.out | refine below_set ?_ GE146.out | refine below_set ?_ GE147.out) | exact HB.out)⟩
                        · rw [if_neg c207] at H
                          have c207b0 : decide ((-1) ≤ t149) = false := decide_eq_false c207
                          clear c207
                          obtain rfl := Option.some.inj H
                          have hnb214 := NB146_145.out
                          have hnc214 := NB145_146.out
                          have hnb215 := NB146_147.out
                          have hnc215 := NB147_146.out
                          have hcz216_0 : wc.cell? ⟨gb146, 0, none⟩ = some (.bool a1_0) := (blk_cell BK146.out 0).trans rfl
                          have hcz216_1 : wc.cell? ⟨gb146, 1, none⟩ = some (.int .i64 a1_1) := (blk_cell BK146.out 1).trans rfl
                          have hcz216_2 : wc.cell? ⟨gb146, 2, none⟩ = some (.string a1_2) := (blk_cell BK146.out 2).trans rfl
                          have hfz216_0 := blk_frozen BK146.out 0
                          have hfz216_1 := blk_frozen BK146.out 1
                          have hfz216_2 := blk_frozen BK146.out 2
                          have hnb217 := NB145_147.out
                          have hnc217 := NB147_145.out
                          have hcz218_0 : wc.cell? ⟨gb145, 0, none⟩ = some (.bool a0_0) := (blk_cell BK145.out 0).trans rfl
                          have hcz218_1 : wc.cell? ⟨gb145, 1, none⟩ = some (.int .i64 a0_1) := (blk_cell BK145.out 1).trans rfl
                          have hcz218_2 : wc.cell? ⟨gb145, 2, none⟩ = some (.string a0_2) := (blk_cell BK145.out 2).trans rfl
                          have hfz218_0 := blk_frozen BK145.out 0
                          have hfz218_1 := blk_frozen BK145.out 1
                          have hfz218_2 := blk_frozen BK145.out 2
                          go_wp2_with (first | ((with_reducible refine gate_callee (f := 16) rfl ?_); refine goesL_ (some 54) rfl rfl Try.func16 (by kernel_rfl) rfl #[.agg #[.bool a1_0, .int .i64 a1_1, .string a1_2], .agg #[.bool a0_0, .int .i64 a0_1, .string a0_2]] rfl (by (try simp only [List.map_toArray, List.map_cons, List.map_nil]); first | done | rfl | (simp only [List.length_drop, List.length_take]; rfl)) ?_; (with_reducible refine (kinds_Compare_c.calls a1_0 a1_1 a1_2 a0_0 a0_1 a0_2 t152 _ A47.out).mono ?_); rintro e w219 ⟨rfl, hb⟩; refine ⟨_, rfl, ?_⟩; have n0_ := Aside0.mk (blk_below (g := gb145) (o := .cells #[.bool a0_0, .int .i64 a0_1, .string a0_2] 23 (0, 0)) (by (with_reducible repeat (first | refine blk_drewN ?_ _ | refine blk_drew ?_ | refine blk_alloc ?_ _)); exact BK145.out) hb); have n1_ := Aside0.mk (blk_below (g := gb146) (o := .cells #[.bool a1_0, .int .i64 a1_1, .string a1_2] 23 (0, 0)) (by (with_reducible repeat (first | refine blk_drewN ?_ _ | refine blk_drew ?_ | refine blk_alloc ?_ _)); exact BK146.out) hb); have n2_ := Aside0.mk (blk_below (g := gb147) (o := .cells #[.bool a2_0, .int .i64 a2_1, .string a2_2] 23 (0, 0)) (by (with_reducible repeat (first | refine blk_drewN ?_ _ | refine blk_drew ?_ | refine blk_alloc ?_ _)); exact BK147.out) hb); have n3_ := Aside0.mk (below_step (by repeat (first | (with_reducible first | exact HB.out | apply below_alloc | apply pw_below_drewN | apply below_drew1 | refine below_set ?_ GE145.out | refine below_set ?_ GE146.out | refine below_set ?_ GE147.out) | exact HB.out)) hb); clear BK145; clear BK146; clear BK147; clear HB; have BK145 := n0_; have BK146 := n1_; have BK147 := n2_; have HB := n3_; clear n0_ n1_ n2_ n3_; (try clear hb); (try clear hb2); (try clear hk); (try clear hi)))
                          go_ret
                          exact ⟨by first | rfl | (simp [errW_none, errW_some] <;> rfl) | (simp [*, errW_none, errW_some] <;> rfl), by repeat (first | (with_reducible first | exact HB.out | apply below_alloc | apply pw_below_drewN | apply below_drew1 | refine below_set ?_ GE145.out | refine below_set ?_ GE146.out | refine below_set ?_ GE147.out) | exact HB.out)⟩
                      · rw [if_neg c206] at H
                        have c206b0 : decide (0 ≤ t150) = false := decide_eq_false c206
                        clear c206
                        by_cases c220 : t149 ≥ (-1)
                        · rw [if_pos c220] at H
                          have c220b0 : decide ((-1) ≤ t149) = true := decide_eq_true c220
                          clear c220
                          obtain rfl := Option.some.inj H
                          have hnb221 := NB146_145.out
                          have hnc221 := NB145_146.out
                          have hnb222 := NB146_147.out
                          have hnc222 := NB147_146.out
                          have hcz223_0 : wc.cell? ⟨gb146, 0, none⟩ = some (.bool a1_0) := (blk_cell BK146.out 0).trans rfl
                          have hcz223_1 : wc.cell? ⟨gb146, 1, none⟩ = some (.int .i64 a1_1) := (blk_cell BK146.out 1).trans rfl
                          have hcz223_2 : wc.cell? ⟨gb146, 2, none⟩ = some (.string a1_2) := (blk_cell BK146.out 2).trans rfl
                          have hfz223_0 := blk_frozen BK146.out 0
                          have hfz223_1 := blk_frozen BK146.out 1
                          have hfz223_2 := blk_frozen BK146.out 2
                          have hnb224 := NB145_147.out
                          have hnc224 := NB147_145.out
                          have hcz225_0 : wc.cell? ⟨gb145, 0, none⟩ = some (.bool a0_0) := (blk_cell BK145.out 0).trans rfl
                          have hcz225_1 : wc.cell? ⟨gb145, 1, none⟩ = some (.int .i64 a0_1) := (blk_cell BK145.out 1).trans rfl
                          have hcz225_2 : wc.cell? ⟨gb145, 2, none⟩ = some (.string a0_2) := (blk_cell BK145.out 2).trans rfl
                          have hfz225_0 := blk_frozen BK145.out 0
                          have hfz225_1 := blk_frozen BK145.out 1
                          have hfz225_2 := blk_frozen BK145.out 2
                          go_wp2_with (first | ((with_reducible refine gate_callee (f := 16) rfl ?_); refine goesL_ (some 54) rfl rfl Try.func16 (by kernel_rfl) rfl #[.agg #[.bool a1_0, .int .i64 a1_1, .string a1_2], .agg #[.bool a0_0, .int .i64 a0_1, .string a0_2]] rfl (by (try simp only [List.map_toArray, List.map_cons, List.map_nil]); first | done | rfl | (simp only [List.length_drop, List.length_take]; rfl)) ?_; (with_reducible refine (kinds_Compare_c.calls a1_0 a1_1 a1_2 a0_0 a0_1 a0_2 t152 _ A47.out).mono ?_); rintro e w226 ⟨rfl, hb⟩; refine ⟨_, rfl, ?_⟩; have n0_ := Aside0.mk (blk_below (g := gb145) (o := .cells #[.bool a0_0, .int .i64 a0_1, .string a0_2] 23 (0, 0)) (by (with_reducible repeat (first | refine blk_drewN ?_ _ | refine blk_drew ?_ | refine blk_alloc ?_ _)); exact BK145.out) hb); have n1_ := Aside0.mk (blk_below (g := gb146) (o := .cells #[.bool a1_0, .int .i64 a1_1, .string a1_2] 23 (0, 0)) (by (with_reducible repeat (first | refine blk_drewN ?_ _ | refine blk_drew ?_ | refine blk_alloc ?_ _)); exact BK146.out) hb); have n2_ := Aside0.mk (blk_below (g := gb147) (o := .cells #[.bool a2_0, .int .i64 a2_1, .string a2_2] 23 (0, 0)) (by (with_reducible repeat (first | refine blk_drewN ?_ _ | refine blk_drew ?_ | refine blk_alloc ?_ _)); exact BK147.out) hb); have n3_ := Aside0.mk (below_step (by repeat (first | (with_reducible first | exact HB.out | apply below_alloc | apply pw_below_drewN | apply below_drew1 | refine below_set ?_ GE145.out | refine below_set ?_ GE146.out | refine below_set ?_ GE147.out) | exact HB.out)) hb); clear BK145; clear BK146; clear BK147; clear HB; have BK145 := n0_; have BK146 := n1_; have BK147 := n2_; have HB := n3_; clear n0_ n1_ n2_ n3_; (try clear hb); (try clear hb2); (try clear hk); (try clear hi)))
                          go_ret
                          exact ⟨by first | rfl | (simp [errW_none, errW_some] <;> rfl) | (simp [*, errW_none, errW_some] <;> rfl), by repeat (first | (with_reducible first | exact HB.out | apply below_alloc | apply pw_below_drewN | apply below_drew1 | refine below_set ?_ GE145.out | refine below_set ?_ GE146.out | refine below_set ?_ GE147.out) | exact HB.out)⟩
                        · rw [if_neg c220] at H
                          have c220b0 : decide ((-1) ≤ t149) = false := decide_eq_false c220
                          clear c220
                          obtain rfl := Option.some.inj H
                          have hnb227 := NB146_145.out
                          have hnc227 := NB145_146.out
                          have hnb228 := NB146_147.out
                          have hnc228 := NB147_146.out
                          have hcz229_0 : wc.cell? ⟨gb146, 0, none⟩ = some (.bool a1_0) := (blk_cell BK146.out 0).trans rfl
                          have hcz229_1 : wc.cell? ⟨gb146, 1, none⟩ = some (.int .i64 a1_1) := (blk_cell BK146.out 1).trans rfl
                          have hcz229_2 : wc.cell? ⟨gb146, 2, none⟩ = some (.string a1_2) := (blk_cell BK146.out 2).trans rfl
                          have hfz229_0 := blk_frozen BK146.out 0
                          have hfz229_1 := blk_frozen BK146.out 1
                          have hfz229_2 := blk_frozen BK146.out 2
                          have hnb230 := NB145_147.out
                          have hnc230 := NB147_145.out
                          have hcz231_0 : wc.cell? ⟨gb145, 0, none⟩ = some (.bool a0_0) := (blk_cell BK145.out 0).trans rfl
                          have hcz231_1 : wc.cell? ⟨gb145, 1, none⟩ = some (.int .i64 a0_1) := (blk_cell BK145.out 1).trans rfl
                          have hcz231_2 : wc.cell? ⟨gb145, 2, none⟩ = some (.string a0_2) := (blk_cell BK145.out 2).trans rfl
                          have hfz231_0 := blk_frozen BK145.out 0
                          have hfz231_1 := blk_frozen BK145.out 1
                          have hfz231_2 := blk_frozen BK145.out 2
                          go_wp2_with (first | ((with_reducible refine gate_callee (f := 16) rfl ?_); refine goesL_ (some 54) rfl rfl Try.func16 (by kernel_rfl) rfl #[.agg #[.bool a1_0, .int .i64 a1_1, .string a1_2], .agg #[.bool a0_0, .int .i64 a0_1, .string a0_2]] rfl (by (try simp only [List.map_toArray, List.map_cons, List.map_nil]); first | done | rfl | (simp only [List.length_drop, List.length_take]; rfl)) ?_; (with_reducible refine (kinds_Compare_c.calls a1_0 a1_1 a1_2 a0_0 a0_1 a0_2 t152 _ A47.out).mono ?_); rintro e w232 ⟨rfl, hb⟩; refine ⟨_, rfl, ?_⟩; have n0_ := Aside0.mk (blk_below (g := gb145) (o := .cells #[.bool a0_0, .int .i64 a0_1, .string a0_2] 23 (0, 0)) (by (with_reducible repeat (first | refine blk_drewN ?_ _ | refine blk_drew ?_ | refine blk_alloc ?_ _)); exact BK145.out) hb); have n1_ := Aside0.mk (blk_below (g := gb146) (o := .cells #[.bool a1_0, .int .i64 a1_1, .string a1_2] 23 (0, 0)) (by (with_reducible repeat (first | refine blk_drewN ?_ _ | refine blk_drew ?_ | refine blk_alloc ?_ _)); exact BK146.out) hb); have n2_ := Aside0.mk (blk_below (g := gb147) (o := .cells #[.bool a2_0, .int .i64 a2_1, .string a2_2] 23 (0, 0)) (by (with_reducible repeat (first | refine blk_drewN ?_ _ | refine blk_drew ?_ | refine blk_alloc ?_ _)); exact BK147.out) hb); have n3_ := Aside0.mk (below_step (by repeat (first | (with_reducible first | exact HB.out | apply below_alloc | apply pw_below_drewN | apply below_drew1 | refine below_set ?_ GE145.out | refine below_set ?_ GE146.out | refine below_set ?_ GE147.out) | exact HB.out)) hb); clear BK145; clear BK146; clear BK147; clear HB; have BK145 := n0_; have BK146 := n1_; have BK147 := n2_; have HB := n3_; clear n0_ n1_ n2_ n3_; (try clear hb); (try clear hb2); (try clear hk); (try clear hi)))
                          go_ret
                          exact ⟨by first | rfl | (simp [errW_none, errW_some] <;> rfl) | (simp [*, errW_none, errW_some] <;> rfl), by repeat (first | (with_reducible first | exact HB.out | apply below_alloc | apply pw_below_drewN | apply below_drew1 | refine below_set ?_ GE145.out | refine below_set ?_ GE146.out | refine below_set ?_ GE147.out) | exact HB.out)⟩
                    · rw [if_neg c205] at H
                      have c205b0 : decide (t151 < 0) = false := decide_eq_false c205
                      clear c205
                      obtain rfl := Option.some.inj H
                      have hnb233 := NB146_145.out
                      have hnc233 := NB145_146.out
                      have hnb234 := NB146_147.out
                      have hnc234 := NB147_146.out
                      have hcz235_0 : wc.cell? ⟨gb146, 0, none⟩ = some (.bool a1_0) := (blk_cell BK146.out 0).trans rfl
                      have hcz235_1 : wc.cell? ⟨gb146, 1, none⟩ = some (.int .i64 a1_1) := (blk_cell BK146.out 1).trans rfl
                      have hcz235_2 : wc.cell? ⟨gb146, 2, none⟩ = some (.string a1_2) := (blk_cell BK146.out 2).trans rfl
                      have hfz235_0 := blk_frozen BK146.out 0
                      have hfz235_1 := blk_frozen BK146.out 1
                      have hfz235_2 := blk_frozen BK146.out 2
                      have hnb236 := NB145_147.out
                      have hnc236 := NB147_145.out
                      have hcz237_0 : wc.cell? ⟨gb145, 0, none⟩ = some (.bool a0_0) := (blk_cell BK145.out 0).trans rfl
                      have hcz237_1 : wc.cell? ⟨gb145, 1, none⟩ = some (.int .i64 a0_1) := (blk_cell BK145.out 1).trans rfl
                      have hcz237_2 : wc.cell? ⟨gb145, 2, none⟩ = some (.string a0_2) := (blk_cell BK145.out 2).trans rfl
                      have hfz237_0 := blk_frozen BK145.out 0
                      have hfz237_1 := blk_frozen BK145.out 1
                      have hfz237_2 := blk_frozen BK145.out 2
                      go_wp2_with (first | ((with_reducible refine gate_callee (f := 16) rfl ?_); refine goesL_ (some 54) rfl rfl Try.func16 (by kernel_rfl) rfl #[.agg #[.bool a1_0, .int .i64 a1_1, .string a1_2], .agg #[.bool a0_0, .int .i64 a0_1, .string a0_2]] rfl (by (try simp only [List.map_toArray, List.map_cons, List.map_nil]); first | done | rfl | (simp only [List.length_drop, List.length_take]; rfl)) ?_; (with_reducible refine (kinds_Compare_c.calls a1_0 a1_1 a1_2 a0_0 a0_1 a0_2 t152 _ A47.out).mono ?_); rintro e w238 ⟨rfl, hb⟩; refine ⟨_, rfl, ?_⟩; have n0_ := Aside0.mk (blk_below (g := gb145) (o := .cells #[.bool a0_0, .int .i64 a0_1, .string a0_2] 23 (0, 0)) (by (with_reducible repeat (first | refine blk_drewN ?_ _ | refine blk_drew ?_ | refine blk_alloc ?_ _)); exact BK145.out) hb); have n1_ := Aside0.mk (blk_below (g := gb146) (o := .cells #[.bool a1_0, .int .i64 a1_1, .string a1_2] 23 (0, 0)) (by (with_reducible repeat (first | refine blk_drewN ?_ _ | refine blk_drew ?_ | refine blk_alloc ?_ _)); exact BK146.out) hb); have n2_ := Aside0.mk (blk_below (g := gb147) (o := .cells #[.bool a2_0, .int .i64 a2_1, .string a2_2] 23 (0, 0)) (by (with_reducible repeat (first | refine blk_drewN ?_ _ | refine blk_drew ?_ | refine blk_alloc ?_ _)); exact BK147.out) hb); have n3_ := Aside0.mk (below_step (by repeat (first | (with_reducible first | exact HB.out | apply below_alloc | apply pw_below_drewN | apply below_drew1 | refine below_set ?_ GE145.out | refine below_set ?_ GE146.out | refine below_set ?_ GE147.out) | exact HB.out)) hb); clear BK145; clear BK146; clear BK147; clear HB; have BK145 := n0_; have BK146 := n1_; have BK147 := n2_; have HB := n3_; clear n0_ n1_ n2_ n3_; (try clear hb); (try clear hb2); (try clear hk); (try clear hi)))
                      go_ret
                      exact ⟨by first | rfl | (simp [errW_none, errW_some] <;> rfl) | (simp [*, errW_none, errW_some] <;> rfl), by repeat (first | (with_reducible first | exact HB.out | apply below_alloc | apply pw_below_drewN | apply below_drew1 | refine below_set ?_ GE145.out | refine below_set ?_ GE146.out | refine below_set ?_ GE147.out) | exact HB.out)⟩
                · rw [if_neg c169] at H
                  have c169b0 : decide (t151 ≤ 0) = false := decide_eq_false c169
                  clear c169
                  obtain rfl := Option.some.inj H
                  have hnb239 := NB146_145.out
                  have hnc239 := NB145_146.out
                  have hnb240 := NB146_147.out
                  have hnc240 := NB147_146.out
                  have hcz241_0 : wc.cell? ⟨gb146, 0, none⟩ = some (.bool a1_0) := (blk_cell BK146.out 0).trans rfl
                  have hcz241_1 : wc.cell? ⟨gb146, 1, none⟩ = some (.int .i64 a1_1) := (blk_cell BK146.out 1).trans rfl
                  have hcz241_2 : wc.cell? ⟨gb146, 2, none⟩ = some (.string a1_2) := (blk_cell BK146.out 2).trans rfl
                  have hfz241_0 := blk_frozen BK146.out 0
                  have hfz241_1 := blk_frozen BK146.out 1
                  have hfz241_2 := blk_frozen BK146.out 2
                  have hnb242 := NB145_147.out
                  have hnc242 := NB147_145.out
                  have hcz243_0 : wc.cell? ⟨gb145, 0, none⟩ = some (.bool a0_0) := (blk_cell BK145.out 0).trans rfl
                  have hcz243_1 : wc.cell? ⟨gb145, 1, none⟩ = some (.int .i64 a0_1) := (blk_cell BK145.out 1).trans rfl
                  have hcz243_2 : wc.cell? ⟨gb145, 2, none⟩ = some (.string a0_2) := (blk_cell BK145.out 2).trans rfl
                  have hfz243_0 := blk_frozen BK145.out 0
                  have hfz243_1 := blk_frozen BK145.out 1
                  have hfz243_2 := blk_frozen BK145.out 2
                  go_wp2_with (first | ((with_reducible refine gate_callee (f := 16) rfl ?_); refine goesL_ (some 54) rfl rfl Try.func16 (by kernel_rfl) rfl #[.agg #[.bool a1_0, .int .i64 a1_1, .string a1_2], .agg #[.bool a0_0, .int .i64 a0_1, .string a0_2]] rfl (by (try simp only [List.map_toArray, List.map_cons, List.map_nil]); first | done | rfl | (simp only [List.length_drop, List.length_take]; rfl)) ?_; (with_reducible refine (kinds_Compare_c.calls a1_0 a1_1 a1_2 a0_0 a0_1 a0_2 t152 _ A47.out).mono ?_); rintro e w244 ⟨rfl, hb⟩; refine ⟨_, rfl, ?_⟩; have n0_ := Aside0.mk (blk_below (g := gb145) (o := .cells #[.bool a0_0, .int .i64 a0_1, .string a0_2] 23 (0, 0)) (by (with_reducible repeat (first | refine blk_drewN ?_ _ | refine blk_drew ?_ | refine blk_alloc ?_ _)); exact BK145.out) hb); have n1_ := Aside0.mk (blk_below (g := gb146) (o := .cells #[.bool a1_0, .int .i64 a1_1, .string a1_2] 23 (0, 0)) (by (with_reducible repeat (first | refine blk_drewN ?_ _ | refine blk_drew ?_ | refine blk_alloc ?_ _)); exact BK146.out) hb); have n2_ := Aside0.mk (blk_below (g := gb147) (o := .cells #[.bool a2_0, .int .i64 a2_1, .string a2_2] 23 (0, 0)) (by (with_reducible repeat (first | refine blk_drewN ?_ _ | refine blk_drew ?_ | refine blk_alloc ?_ _)); exact BK147.out) hb); have n3_ := Aside0.mk (below_step (by repeat (first | (with_reducible first | exact HB.out | apply below_alloc | apply pw_below_drewN | apply below_drew1 | refine below_set ?_ GE145.out | refine below_set ?_ GE146.out | refine below_set ?_ GE147.out) | exact HB.out)) hb); clear BK145; clear BK146; clear BK147; clear HB; have BK145 := n0_; have BK146 := n1_; have BK147 := n2_; have HB := n3_; clear n0_ n1_ n2_ n3_; (try clear hb); (try clear hb2); (try clear hk); (try clear hi)))
                  go_ret
                  exact ⟨by first | rfl | (simp [errW_none, errW_some] <;> rfl) | (simp [*, errW_none, errW_some] <;> rfl), by repeat (first | (with_reducible first | exact HB.out | apply below_alloc | apply pw_below_drewN | apply below_drew1 | refine below_set ?_ GE145.out | refine below_set ?_ GE146.out | refine below_set ?_ GE147.out) | exact HB.out)⟩
          · rw [if_neg c49] at H
            have c49b0 : ((t149 == 0) == x10_8) = false := by simpa using c49
            (try (have c49b1 : decide ((t149 == 0) = x10_8) = false := by simpa using c49))
            (try (have c49b2 : ((t149 == 0) == x10_8) = false := by simpa using c49))
            (try (have c49b3 : ¬ ((t149 == 0) = x10_8) := by simpa using c49))
            clear c49
            obtain rfl := Option.some.inj H
            have hnb245 := NB146_145.out
            have hnc245 := NB145_146.out
            have hnb246 := NB146_147.out
            have hnc246 := NB147_146.out
            have hcz247_0 : wc.cell? ⟨gb146, 0, none⟩ = some (.bool a1_0) := (blk_cell BK146.out 0).trans rfl
            have hcz247_1 : wc.cell? ⟨gb146, 1, none⟩ = some (.int .i64 a1_1) := (blk_cell BK146.out 1).trans rfl
            have hcz247_2 : wc.cell? ⟨gb146, 2, none⟩ = some (.string a1_2) := (blk_cell BK146.out 2).trans rfl
            have hfz247_0 := blk_frozen BK146.out 0
            have hfz247_1 := blk_frozen BK146.out 1
            have hfz247_2 := blk_frozen BK146.out 2
            have hnb248 := NB145_147.out
            have hnc248 := NB147_145.out
            have hcz249_0 : wc.cell? ⟨gb145, 0, none⟩ = some (.bool a0_0) := (blk_cell BK145.out 0).trans rfl
            have hcz249_1 : wc.cell? ⟨gb145, 1, none⟩ = some (.int .i64 a0_1) := (blk_cell BK145.out 1).trans rfl
            have hcz249_2 : wc.cell? ⟨gb145, 2, none⟩ = some (.string a0_2) := (blk_cell BK145.out 2).trans rfl
            have hfz249_0 := blk_frozen BK145.out 0
            have hfz249_1 := blk_frozen BK145.out 1
            have hfz249_2 := blk_frozen BK145.out 2
            go_wp2_with (first | ((with_reducible refine gate_callee (f := 16) rfl ?_); refine goesL_ (some 54) rfl rfl Try.func16 (by kernel_rfl) rfl #[.agg #[.bool a1_0, .int .i64 a1_1, .string a1_2], .agg #[.bool a0_0, .int .i64 a0_1, .string a0_2]] rfl (by (try simp only [List.map_toArray, List.map_cons, List.map_nil]); first | done | rfl | (simp only [List.length_drop, List.length_take]; rfl)) ?_; (with_reducible refine (kinds_Compare_c.calls a1_0 a1_1 a1_2 a0_0 a0_1 a0_2 t152 _ A47.out).mono ?_); rintro e w250 ⟨rfl, hb⟩; refine ⟨_, rfl, ?_⟩; have n0_ := Aside0.mk (blk_below (g := gb145) (o := .cells #[.bool a0_0, .int .i64 a0_1, .string a0_2] 23 (0, 0)) (by (with_reducible repeat (first | refine blk_drewN ?_ _ | refine blk_drew ?_ | refine blk_alloc ?_ _)); exact BK145.out) hb); have n1_ := Aside0.mk (blk_below (g := gb146) (o := .cells #[.bool a1_0, .int .i64 a1_1, .string a1_2] 23 (0, 0)) (by (with_reducible repeat (first | refine blk_drewN ?_ _ | refine blk_drew ?_ | refine blk_alloc ?_ _)); exact BK146.out) hb); have n2_ := Aside0.mk (blk_below (g := gb147) (o := .cells #[.bool a2_0, .int .i64 a2_1, .string a2_2] 23 (0, 0)) (by (with_reducible repeat (first | refine blk_drewN ?_ _ | refine blk_drew ?_ | refine blk_alloc ?_ _)); exact BK147.out) hb); have n3_ := Aside0.mk (below_step (by repeat (first | (with_reducible first | exact HB.out | apply below_alloc | apply pw_below_drewN | apply below_drew1 | refine below_set ?_ GE145.out | refine below_set ?_ GE146.out | refine below_set ?_ GE147.out) | exact HB.out)) hb); clear BK145; clear BK146; clear BK147; clear HB; have BK145 := n0_; have BK146 := n1_; have BK147 := n2_; have HB := n3_; clear n0_ n1_ n2_ n3_; (try clear hb); (try clear hb2); (try clear hk); (try clear hi)))
            go_ret
            exact ⟨by first | rfl | (simp [errW_none, errW_some] <;> rfl) | (simp [*, errW_none, errW_some] <;> rfl), by repeat (first | (with_reducible first | exact HB.out | apply below_alloc | apply pw_below_drewN | apply below_drew1 | refine below_set ?_ GE145.out | refine below_set ?_ GE146.out | refine below_set ?_ GE147.out) | exact HB.out)⟩
        · rw [if_neg c48] at H
          have c48b0 : (t152 == (wrap64 (-t149))) = false := beq_eq_false_iff_ne.mpr c48
          have c48b1 : (t152 != (wrap64 (-t149))) = true := bne_iff_ne.mpr c48
          obtain rfl := Option.some.inj H
          have hnb251 := NB146_145.out
          have hnc251 := NB145_146.out
          have hnb252 := NB146_147.out
          have hnc252 := NB147_146.out
          have hcz253_0 : wc.cell? ⟨gb146, 0, none⟩ = some (.bool a1_0) := (blk_cell BK146.out 0).trans rfl
          have hcz253_1 : wc.cell? ⟨gb146, 1, none⟩ = some (.int .i64 a1_1) := (blk_cell BK146.out 1).trans rfl
          have hcz253_2 : wc.cell? ⟨gb146, 2, none⟩ = some (.string a1_2) := (blk_cell BK146.out 2).trans rfl
          have hfz253_0 := blk_frozen BK146.out 0
          have hfz253_1 := blk_frozen BK146.out 1
          have hfz253_2 := blk_frozen BK146.out 2
          have hnb254 := NB145_147.out
          have hnc254 := NB147_145.out
          have hcz255_0 : wc.cell? ⟨gb145, 0, none⟩ = some (.bool a0_0) := (blk_cell BK145.out 0).trans rfl
          have hcz255_1 : wc.cell? ⟨gb145, 1, none⟩ = some (.int .i64 a0_1) := (blk_cell BK145.out 1).trans rfl
          have hcz255_2 : wc.cell? ⟨gb145, 2, none⟩ = some (.string a0_2) := (blk_cell BK145.out 2).trans rfl
          have hfz255_0 := blk_frozen BK145.out 0
          have hfz255_1 := blk_frozen BK145.out 1
          have hfz255_2 := blk_frozen BK145.out 2
          go_wp2_with (first | ((with_reducible refine gate_callee (f := 16) rfl ?_); refine goesL_ (some 54) rfl rfl Try.func16 (by kernel_rfl) rfl #[.agg #[.bool a1_0, .int .i64 a1_1, .string a1_2], .agg #[.bool a0_0, .int .i64 a0_1, .string a0_2]] rfl (by (try simp only [List.map_toArray, List.map_cons, List.map_nil]); first | done | rfl | (simp only [List.length_drop, List.length_take]; rfl)) ?_; (with_reducible refine (kinds_Compare_c.calls a1_0 a1_1 a1_2 a0_0 a0_1 a0_2 t152 _ A47.out).mono ?_); rintro e w256 ⟨rfl, hb⟩; refine ⟨_, rfl, ?_⟩; have n0_ := Aside0.mk (blk_below (g := gb145) (o := .cells #[.bool a0_0, .int .i64 a0_1, .string a0_2] 23 (0, 0)) (by (with_reducible repeat (first | refine blk_drewN ?_ _ | refine blk_drew ?_ | refine blk_alloc ?_ _)); exact BK145.out) hb); have n1_ := Aside0.mk (blk_below (g := gb146) (o := .cells #[.bool a1_0, .int .i64 a1_1, .string a1_2] 23 (0, 0)) (by (with_reducible repeat (first | refine blk_drewN ?_ _ | refine blk_drew ?_ | refine blk_alloc ?_ _)); exact BK146.out) hb); have n2_ := Aside0.mk (blk_below (g := gb147) (o := .cells #[.bool a2_0, .int .i64 a2_1, .string a2_2] 23 (0, 0)) (by (with_reducible repeat (first | refine blk_drewN ?_ _ | refine blk_drew ?_ | refine blk_alloc ?_ _)); exact BK147.out) hb); have n3_ := Aside0.mk (below_step (by repeat (first | (with_reducible first | exact HB.out | apply below_alloc | apply pw_below_drewN | apply below_drew1 | refine below_set ?_ GE145.out | refine below_set ?_ GE146.out | refine below_set ?_ GE147.out) | exact HB.out)) hb); clear BK145; clear BK146; clear BK147; clear HB; have BK145 := n0_; have BK146 := n1_; have BK147 := n2_; have HB := n3_; clear n0_ n1_ n2_ n3_; (try clear hb); (try clear hb2); (try clear hk); (try clear hi)))
          go_ret
          exact ⟨by first | rfl | (simp [errW_none, errW_some] <;> rfl) | (simp [*, errW_none, errW_some] <;> rfl), by repeat (first | (with_reducible first | exact HB.out | apply below_alloc | apply pw_below_drewN | apply below_drew1 | refine below_set ?_ GE145.out | refine below_set ?_ GE146.out | refine below_set ?_ GE147.out) | exact HB.out)⟩
  · replace c5 := Bool.eq_false_iff.mpr c5
    subst c5
    have H1 : (some false) = some r := by rw [if_neg (show ¬ (false = true) by decide)] at H; exact H
    clear H
    have H := H1
    clear H1
    obtain rfl := Option.some.inj H
    go_enter Try.func4, Try.ntmps4
    go_wp2_with (first | ((with_reducible refine gate_dst (N := 3) rfl ?_); refine box_event ?hg (N := 3) ?hd (cs := #[.bool a0_0, .int .i64 a0_1, .string a0_2]) (t := 23) ?hr ?_; (case hd => rfl); (case hg => rfl); (case hr => first | (go_simp; done) | (go_simp; rfl)); intro gb145 hg w257 hbox hb; have n0_ := Aside0.mk (below_step (by repeat (first | (with_reducible first | exact HB.out | apply below_alloc | apply pw_below_drewN | apply below_drew1) | exact HB.out)) hb); have n1_ := Aside0.mk (hbox); have n2_ := Aside0.mk ((by rw [hg]; exact (below_size (by repeat (first | (with_reducible first | exact HB.out | apply below_alloc | apply pw_below_drewN | apply below_drew1) | exact HB.out))) : w.heap.size ≤ gb145)); have n3_ := Aside0.mk ((by rw [hg]; exact (below_size (by repeat (first | (with_reducible first | exact HB.out | apply below_alloc | apply pw_below_drewN | apply below_drew1) | exact HB.out))) : w.heap.size ≤ gb145)); clear HB; have HB := n0_; have BK145 := n1_; have GW145 := n2_; have GE145 := n3_; clear n0_ n1_ n2_ n3_; clear hb hbox hg) | ((with_reducible refine gate_dst (N := 4) rfl ?_); refine box_event ?hg (N := 4) ?hd (cs := #[.bool a1_0, .int .i64 a1_1, .string a1_2]) (t := 23) ?hr ?_; (case hd => rfl); (case hg => rfl); (case hr => first | (go_simp; done) | (go_simp; rfl)); intro gb146 hg w258 hbox hb; have n0_ := Aside0.mk (blk_below (g := gb145) (o := .cells #[.bool a0_0, .int .i64 a0_1, .string a0_2] 23 (0, 0)) (by (with_reducible repeat (first | refine blk_drewN ?_ _ | refine blk_drew ?_ | refine blk_alloc ?_ _)); exact BK145.out) hb); have n1_ := Aside0.mk (below_step (by repeat (first | (with_reducible first | exact HB.out | apply below_alloc | apply pw_below_drewN | apply below_drew1 | refine below_set ?_ GE145.out) | exact HB.out)) hb); have n2_ := Aside0.mk (hbox); have n3_ := Aside0.mk ((by rw [hg]; exact (below_size (by repeat (first | (with_reducible first | exact HB.out | apply below_alloc | apply pw_below_drewN | apply below_drew1 | refine below_set ?_ GE145.out) | exact HB.out))) : w.heap.size ≤ gb146)); have n4_ := Aside0.mk ((by rw [hg]; exact (below_size (by repeat (first | (with_reducible first | exact HB.out | apply below_alloc | apply pw_below_drewN | apply below_drew1 | refine below_set ?_ GE145.out) | exact HB.out))) : w.heap.size ≤ gb146)); have n5_ := Aside0.mk ((by rw [hg]; exact Nat.ne_of_lt (blk_lt (g := gb145) (o := .cells #[.bool a0_0, .int .i64 a0_1, .string a0_2] 23 (0, 0)) (by (with_reducible repeat (first | refine blk_drewN ?_ _ | refine blk_drew ?_ | refine blk_alloc ?_ _)); exact BK145.out)) : gb145 ≠ gb146)); have n6_ := Aside0.mk ((by rw [hg]; exact Nat.ne_of_gt (blk_lt (g := gb145) (o := .cells #[.bool a0_0, .int .i64 a0_1, .string a0_2] 23 (0, 0)) (by (with_reducible repeat (first | refine blk_drewN ?_ _ | refine blk_drew ?_ | refine blk_alloc ?_ _)); exact BK145.out)) : gb146 ≠ gb145)); clear BK145; clear HB; have BK145 := n0_; have HB := n1_; have BK146 := n2_; have GW146 := n3_; have GE146 := n4_; have NB145_146 := n5_; have NB146_145 := n6_; clear n0_ n1_ n2_ n3_ n4_ n5_ n6_; clear hb hbox hg) | ((with_reducible refine gate_dst (N := 5) rfl ?_); refine box_event ?hg (N := 5) ?hd (cs := #[.bool a2_0, .int .i64 a2_1, .string a2_2]) (t := 23) ?hr ?_; (case hd => rfl); (case hg => rfl); (case hr => first | (go_simp; done) | (go_simp; rfl)); intro gb147 hg w259 hbox hb; have n0_ := Aside0.mk (blk_below (g := gb145) (o := .cells #[.bool a0_0, .int .i64 a0_1, .string a0_2] 23 (0, 0)) (by (with_reducible repeat (first | refine blk_drewN ?_ _ | refine blk_drew ?_ | refine blk_alloc ?_ _)); exact BK145.out) hb); have n1_ := Aside0.mk (blk_below (g := gb146) (o := .cells #[.bool a1_0, .int .i64 a1_1, .string a1_2] 23 (0, 0)) (by (with_reducible repeat (first | refine blk_drewN ?_ _ | refine blk_drew ?_ | refine blk_alloc ?_ _)); exact BK146.out) hb); have n2_ := Aside0.mk (below_step (by repeat (first | (with_reducible first | exact HB.out | apply below_alloc | apply pw_below_drewN | apply below_drew1 | refine below_set ?_ GE145.out | refine below_set ?_ GE146.out) | exact HB.out)) hb); have n3_ := Aside0.mk (hbox); have n4_ := Aside0.mk ((by rw [hg]; exact (below_size (by repeat (first | (with_reducible first | exact HB.out | apply below_alloc | apply pw_below_drewN | apply below_drew1 | refine below_set ?_ GE145.out | refine below_set ?_ GE146.out) | exact HB.out))) : w.heap.size ≤ gb147)); have n5_ := Aside0.mk ((by rw [hg]; exact (below_size (by repeat (first | (with_reducible first | exact HB.out | apply below_alloc | apply pw_below_drewN | apply below_drew1 | refine below_set ?_ GE145.out | refine below_set ?_ GE146.out) | exact HB.out))) : w.heap.size ≤ gb147)); have n6_ := Aside0.mk ((by rw [hg]; exact Nat.ne_of_lt (blk_lt (g := gb145) (o := .cells #[.bool a0_0, .int .i64 a0_1, .string a0_2] 23 (0, 0)) (by (with_reducible repeat (first | refine blk_drewN ?_ _ | refine blk_drew ?_ | refine blk_alloc ?_ _)); exact BK145.out)) : gb145 ≠ gb147)); have n7_ := Aside0.mk ((by rw [hg]; exact Nat.ne_of_gt (blk_lt (g := gb145) (o := .cells #[.bool a0_0, .int .i64 a0_1, .string a0_2] 23 (0, 0)) (by (with_reducible repeat (first | refine blk_drewN ?_ _ | refine blk_drew ?_ | refine blk_alloc ?_ _)); exact BK145.out)) : gb147 ≠ gb145)); have n8_ := Aside0.mk ((by rw [hg]; exact Nat.ne_of_lt (blk_lt (g := gb146) (o := .cells #[.bool a1_0, .int .i64 a1_1, .string a1_2] 23 (0, 0)) (by (with_reducible repeat (first | refine blk_drewN ?_ _ | refine blk_drew ?_ | refine blk_alloc ?_ _)); exact BK146.out)) : gb146 ≠ gb147)); have n9_ := Aside0.mk ((by rw [hg]; exact Nat.ne_of_gt (blk_lt (g := gb146) (o := .cells #[.bool a1_0, .int .i64 a1_1, .string a1_2] 23 (0, 0)) (by (with_reducible repeat (first | refine blk_drewN ?_ _ | refine blk_drew ?_ | refine blk_alloc ?_ _)); exact BK146.out)) : gb147 ≠ gb146)); clear BK145; clear BK146; clear HB; have BK145 := n0_; have BK146 := n1_; have HB := n2_; have BK147 := n3_; have GW147 := n4_; have GE147 := n5_; have NB145_147 := n6_; have NB147_145 := n7_; have NB146_147 := n8_; have NB147_146 := n9_; clear n0_ n1_ n2_ n3_ n4_ n5_ n6_ n7_ n8_ n9_; clear hb hbox hg) | ((with_reducible refine gate_callee (f := 15) rfl ?_); refine goesL_ (some 11) rfl rfl Try.func15 (by kernel_rfl) rfl #[] rfl (by (try simp only [List.map_toArray, List.map_cons, List.map_nil]); first | done | rfl | (simp only [List.length_drop, List.length_take]; rfl)) ?_; (with_reducible refine (tithebarnlaw02_lives_c.calls  false _ A4.out).mono ?_); rintro e w260 ⟨rfl, hb⟩; refine ⟨_, rfl, ?_⟩; have n0_ := Aside0.mk (blk_below (g := gb145) (o := .cells #[.bool a0_0, .int .i64 a0_1, .string a0_2] 23 (0, 0)) (by (with_reducible repeat (first | refine blk_drewN ?_ _ | refine blk_drew ?_ | refine blk_alloc ?_ _)); exact BK145.out) hb); have n1_ := Aside0.mk (blk_below (g := gb146) (o := .cells #[.bool a1_0, .int .i64 a1_1, .string a1_2] 23 (0, 0)) (by (with_reducible repeat (first | refine blk_drewN ?_ _ | refine blk_drew ?_ | refine blk_alloc ?_ _)); exact BK146.out) hb); have n2_ := Aside0.mk (blk_below (g := gb147) (o := .cells #[.bool a2_0, .int .i64 a2_1, .string a2_2] 23 (0, 0)) (by (with_reducible repeat (first | refine blk_drewN ?_ _ | refine blk_drew ?_ | refine blk_alloc ?_ _)); exact BK147.out) hb); have n3_ := Aside0.mk (below_step (by repeat (first | (with_reducible first | exact HB.out | apply below_alloc | apply pw_below_drewN | apply below_drew1 | refine below_set ?_ GE145.out | refine below_set ?_ GE146.out | refine below_set ?_ GE147.out) | exact HB.out)) hb); clear BK145; clear BK146; clear BK147; clear HB; have BK145 := n0_; have BK146 := n1_; have BK147 := n2_; have HB := n3_; clear n0_ n1_ n2_ n3_; (try clear hb); (try clear hb2); (try clear hk); (try clear hi)))
    go_ret
    exact ⟨by first | rfl | (simp [errW_none, errW_some] <;> rfl) | (simp [*, errW_none, errW_some] <;> rfl), by repeat (first | (with_reducible first | exact HB.out | apply below_alloc | apply pw_below_drewN | apply below_drew1 | refine below_set ?_ GE145.out | refine below_set ?_ GE146.out | refine below_set ?_ GE147.out) | exact HB.out)⟩

end Go.Proofs.Ytknkncidlfobiaa.Pr
