-- printed by xprint.py
import Derived.Test.YtnfliommpdjlkaaPr0
import Derived.Test.YtnfliommpdjlkaaPrf45
import Derived.Test.YtnfliommpdjlkaaPrf48
import Derived.Test.YtnfliommpdjlkaaPrf46
import Derived.Test.YtnfliommpdjlkaaThy
namespace Go.Proofs.Ytnfliommpdjlkaa.Pr
open Go.RowKit Go.Proofs.YtnfliommpdjlkaaW PrintWords PrintLast PrintMore
set_option linter.unusedVariables false
set_option linter.unusedSimpArgs false

/-! ### zone_May: function 24 -/
def zone_May.j0 : Nat → Bool → Int → Int → Bool → Int → ByteArray → Bool → Bool → Bool → Int → ByteArray → Bool → Int → ByteArray → Option (Bool)
 | 0, _, _, _, _, _, _, _, _, _, _, _, _, _, _ => none
 | k + 1, x32, x181000, x181001, x181002, x181003, x181004, x182000, x182001, x182002, x182003, x182004, x182005, x182006, x182007 => if x32 = true then (some false) else ((zone_solid.f x182002 x182003 x182004).bind fun bt182 => ((kinds_Compare_c.f bt182.1 bt182.2.1 bt182.2.2 x181002 x181003 x181004).bind fun t185 => ((zone_solid.f x182005 x182006 x182007).bind fun bt186 => ((kinds_Compare_c.f bt186.1 bt186.2.1 bt186.2.2 x181002 x181003 x181004).bind fun t189 => (if x181000 = 1 then (if t185 ≤ 0 then (some (decide (t189 ≥ 0))) else (some false)) else (if x181000 = 2 then (some (decide (t185 < 0))) else (if x181000 = 3 then (some (decide (t189 ≥ 0))) else (some false))))))))
def zone_May.f (k : Nat) (a0_0 : Int) (a0_1 : Int) (a0_2 : Bool) (a0_3 : Int) (a0_4 : ByteArray) (a1_0 : Bool) (a1_1 : Bool) (a1_2 : Bool) (a1_3 : Int) (a1_4 : ByteArray) (a1_5 : Bool) (a1_6 : Int) (a1_7 : ByteArray) : Option (Bool) := if a0_0 = 0 then (if a1_0 = true then (some true) else (some a1_1)) else (if a0_0 = 4 then (some a1_0) else (if a0_0 = 5 then (some a1_1) else (if a1_1 = true then (zone_May.j0 k a0_2 a0_0 a0_1 a0_2 a0_3 a0_4 a1_0 a1_1 a1_2 a1_3 a1_4 a1_5 a1_6 a1_7) else (zone_May.j0 k true a0_0 a0_1 a0_2 a0_3 a0_4 a1_0 a1_1 a1_2 a1_3 a1_4 a1_5 a1_6 a1_7))))
theorem zone_May.mono_l : ∀ k, (∀ y0 y1 y2 y3 y4 y5 y6 y7 y8 y9 y10 y11 y12 y13, LeO (zone_May.j0 k y0 y1 y2 y3 y4 y5 y6 y7 y8 y9 y10 y11 y12 y13) (zone_May.j0 (k + 1) y0 y1 y2 y3 y4 y5 y6 y7 y8 y9 y10 y11 y12 y13))
 | 0 => fun _ _ _ _ _ _ _ _ _ _ _ _ _ _ r h => by simp [zone_May.j0] at h
 | k + 1 => by
  have ih0 := zone_May.mono_l k
  ·intro y0 y1 y2 y3 y4 y5 y6 y7 y8 y9 y10 y11 y12 y13
   unfold zone_May.j0
   repeat' first
   | (with_reducible exact ih0 _ _ _ _ _ _ _ _ _ _ _ _ _ _)
   | (with_reducible exact LeO.refl _)
   | (with_reducible exact LeO.none _)
   | (with_reducible refine LeO.ite ?_ ?_)
   | (with_reducible refine LeO.bind ?_ (fun _ => ?_))
theorem zone_May.mono : ∀ a0 a1 a2 a3 a4 a5 a6 a7 a8 a9 a10 a11 a12 k, LeO (zone_May.f k a0 a1 a2 a3 a4 a5 a6 a7 a8 a9 a10 a11 a12) (zone_May.f (k + 1) a0 a1 a2 a3 a4 a5 a6 a7 a8 a9 a10 a11 a12) := by
 intro a0 a1 a2 a3 a4 a5 a6 a7 a8 a9 a10 a11 a12 k
 have ih0 := zone_May.mono_l k
 unfold zone_May.f
 repeat' first
   | (with_reducible exact ih0 _ _ _ _ _ _ _ _ _ _ _ _ _ _)
   | (with_reducible exact LeO.refl _)
   | (with_reducible exact LeO.none _)
   | (with_reducible refine LeO.ite ?_ ?_)
   | (with_reducible refine LeO.bind ?_ (fun _ => ?_))
def zone_May.T10 : Bool × List (List Nat × List Nat) := (true, [([], []), ([0], [0]), ([1], [1]), ([], []), ([3], [3]), ([2, 4, 2], [2, 4]), ([], []), ([6], [6]), ([7, 5], [7]), ([], []), ([9], [9]), ([8, 10, 8], [8, 10]), ([5, 11, 0, 1, 2, 3, 4, 5], [5]), ([11, 12, 0, 1, 2, 3, 4, 5, 6, 7, 8, 9, 10, 11, 12], [11])])
def zone_May.B10 : List Nat := [0, 1, 3, 0, 8, 31, 0, 64, 255, 0, 512, 2047, 4095, 8191]
theorem zone_May.tab10 : rtab .any (opsOf Try.f24 10) = zone_May.T10 := by kernel_rfl
theorem zone_May.bits10 : waitsOk zone_May.T10.2 zone_May.B10 = true := by kernel_rfl
set_option maxHeartbeats 8000000 in
set_option maxRecDepth 100000 in
theorem zone_May.calls (k : Nat) (a0_0 : Int) (a0_1 : Int) (a0_2 : Bool) (a0_3 : Int) (a0_4 : ByteArray) (a1_0 : Bool) (a1_1 : Bool) (a1_2 : Bool) (a1_3 : Int) (a1_4 : ByteArray) (a1_5 : Bool) (a1_6 : Int) (a1_7 : ByteArray) (r : Bool) (w : World) (h : zone_May.f k a0_0 a0_1 a0_2 a0_3 a0_4 a1_0 a1_1 a1_2 a1_3 a1_4 a1_5 a1_6 a1_7 = some r) :
  Calls Try.prog 24 #[.agg #[.int .i64 a0_0, .int .i64 a0_1, .bool a0_2, .int .i64 a0_3, .string a0_4], .agg #[.bool a1_0, .bool a1_1, .bool a1_2, .int .i64 a1_3, .string a1_4, .bool a1_5, .int .i64 a1_6, .string a1_7]] w fun e w' => e = .returned (.bool r) ∧ Below w.heap.size w w' := by
 have hu38 := Try.underlying38
 have hu41 := Try.underlying41
 have hu27 := Try.underlying27
 have HB := Aside0.mk (Below.refl w.heap.size w)
 have H : (if a0_0 = 0 then (if a1_0 = true then (some true) else (some a1_1)) else (if a0_0 = 4 then (some a1_0) else (if a0_0 = 5 then (some a1_1) else (if a1_1 = true then (zone_May.j0 k a0_2 a0_0 a0_1 a0_2 a0_3 a0_4 a1_0 a1_1 a1_2 a1_3 a1_4 a1_5 a1_6 a1_7) else (zone_May.j0 k true a0_0 a0_1 a0_2 a0_3 a0_4 a1_0 a1_1 a1_2 a1_3 a1_4 a1_5 a1_6 a1_7))))) = some r := h
 clear h
 by_cases c3 : a0_0 = 0
 ·rw [if_pos c3] at H
  have c3b0 : (a0_0 == 0) = true := beq_iff_eq.mpr c3
  have c3b1 : (a0_0 != 0) = false := bne_eq_false_iff_eq.mpr c3
  clear c3
  by_cases c4 : a1_0 = true
  ·subst c4
   have H1 : (some true) = some r := by rw [if_pos rfl] at H; exact H
   clear H
   have H := H1
   clear H1
   obtain rfl := Option.some.inj H
   go_enter Try.func24, Try.ntmps24
   go_wp2_with (first | ((with_reducible refine gate_dst (N := 2) rfl ?_); refine box_event ?hg (N := 2) ?hd (cs := #[.int .i64 a0_0, .int .i64 a0_1, .bool a0_2, .int .i64 a0_3, .string a0_4]) (t := 38) ?hr ?_; (case hd => rfl); (case hg => rfl); (case hr => first | (go_simp; done) | (go_simp; rfl)); intro gb180 hg w5 hbox hb; have n0_ := Aside0.mk (below_step (by with_reducible repeat first | exact HB.out | apply below_alloc | apply pw_below_drewN | apply below_drew1) hb); have n1_ := Aside0.mk (hbox); have n2_ := Aside0.mk ((by rw [hg]; exact (below_size (by with_reducible repeat first | exact HB.out | apply below_alloc | apply pw_below_drewN | apply below_drew1)) : w.heap.size ≤ gb180)); have n3_ := Aside0.mk ((by rw [hg]; exact (below_size (by with_reducible repeat first | exact HB.out | apply below_alloc | apply pw_below_drewN | apply below_drew1)) : w.heap.size ≤ gb180)); clear HB; have HB := n0_; have BK180 := n1_; have GW180 := n2_; have GE180 := n3_; clear n0_ n1_ n2_ n3_; clear hb hbox hg) | ((with_reducible refine gate_dst (N := 3) rfl ?_); refine box_event ?hg (N := 3) ?hd (cs := #[.bool true, .bool a1_1, .bool a1_2, .int .i64 a1_3, .string a1_4, .bool a1_5, .int .i64 a1_6, .string a1_7]) (t := 41) ?hr ?_; (case hd => rfl); (case hg => rfl); (case hr => first | (go_simp; done) | (go_simp; rfl)); intro gb181 hg w6 hbox hb; have n0_ := Aside0.mk (blk_below (g := gb180) (o := .cells #[.int .i64 a0_0, .int .i64 a0_1, .bool a0_2, .int .i64 a0_3, .string a0_4] 38 (0, 0)) (by (with_reducible repeat (first | refine blk_drewN ?_ _ | refine blk_drew ?_ | refine blk_alloc ?_ _)); exact BK180.out) hb); have n1_ := Aside0.mk (below_step (by with_reducible repeat first | exact HB.out | apply below_alloc | apply pw_below_drewN | apply below_drew1 | refine below_set ?_ GE180.out) hb); have n2_ := Aside0.mk (hbox); have n3_ := Aside0.mk ((by rw [hg]; exact (below_size (by with_reducible repeat first | exact HB.out | apply below_alloc | apply pw_below_drewN | apply below_drew1 | refine below_set ?_ GE180.out)) : w.heap.size ≤ gb181)); have n4_ := Aside0.mk ((by rw [hg]; exact (below_size (by with_reducible repeat first | exact HB.out | apply below_alloc | apply pw_below_drewN | apply below_drew1 | refine below_set ?_ GE180.out)) : w.heap.size ≤ gb181)); have n5_ := Aside0.mk ((by rw [hg]; exact Nat.ne_of_lt (blk_lt (g := gb180) (o := .cells #[.int .i64 a0_0, .int .i64 a0_1, .bool a0_2, .int .i64 a0_3, .string a0_4] 38 (0, 0)) (by (with_reducible repeat (first | refine blk_drewN ?_ _ | refine blk_drew ?_ | refine blk_alloc ?_ _)); exact BK180.out)) : gb180 ≠ gb181)); have n6_ := Aside0.mk ((by rw [hg]; exact Nat.ne_of_gt (blk_lt (g := gb180) (o := .cells #[.int .i64 a0_0, .int .i64 a0_1, .bool a0_2, .int .i64 a0_3, .string a0_4] 38 (0, 0)) (by (with_reducible repeat (first | refine blk_drewN ?_ _ | refine blk_drew ?_ | refine blk_alloc ?_ _)); exact BK180.out)) : gb181 ≠ gb180)); clear BK180; clear HB; have BK180 := n0_; have HB := n1_; have BK181 := n2_; have GW181 := n3_; have GE181 := n4_; have NB180_181 := n5_; have NB181_180 := n6_; clear n0_ n1_ n2_ n3_ n4_ n5_ n6_; clear hb hbox hg; have hnb7 := NB180_181.out; have hnc7 := NB181_180.out; obtain ⟨hcz8_0, hcz8_1, hcz8_2, hcz8_3, hcz8_4⟩ := bc5 BK180.out; obtain ⟨hfz8_0, hfz8_1, hfz8_2, hfz8_3, hfz8_4⟩ := bf5 BK180.out; obtain ⟨hcz9_0, hcz9_1, hcz9_2, hcz9_3, hcz9_4, hcz9_5, hcz9_6, hcz9_7⟩ := bc8 BK181.out; obtain ⟨hfz9_0, hfz9_1, hfz9_2, hfz9_3, hfz9_4, hfz9_5, hfz9_6, hfz9_7⟩ := bf8 BK181.out))
   go_ret
   exact ⟨by first | rfl | (simp [errW_none, errW_some] <;> rfl) | (simp [*, errW_none, errW_some] <;> rfl), by repeat (first | (with_reducible first | exact HB.out | apply below_alloc | apply pw_below_drewN | apply below_drew1 | refine below_set ?_ GE180.out | refine below_set ?_ GE181.out) | exact HB.out)⟩
  ·replace c4 := Bool.eq_false_iff.mpr c4
   subst c4
   have H1 : (some a1_1) = some r := by rw [if_neg (show ¬ (false = true) by decide)] at H; exact H
   clear H
   have H := H1
   clear H1
   obtain rfl := Option.some.inj H
   go_enter Try.func24, Try.ntmps24
   go_wp2_with (first | ((with_reducible refine gate_dst (N := 2) rfl ?_); refine box_event ?hg (N := 2) ?hd (cs := #[.int .i64 a0_0, .int .i64 a0_1, .bool a0_2, .int .i64 a0_3, .string a0_4]) (t := 38) ?hr ?_; (case hd => rfl); (case hg => rfl); (case hr => first | (go_simp; done) | (go_simp; rfl)); intro gb180 hg w10 hbox hb; have n0_ := Aside0.mk (below_step (by with_reducible repeat first | exact HB.out | apply below_alloc | apply pw_below_drewN | apply below_drew1) hb); have n1_ := Aside0.mk (hbox); have n2_ := Aside0.mk ((by rw [hg]; exact (below_size (by with_reducible repeat first | exact HB.out | apply below_alloc | apply pw_below_drewN | apply below_drew1)) : w.heap.size ≤ gb180)); have n3_ := Aside0.mk ((by rw [hg]; exact (below_size (by with_reducible repeat first | exact HB.out | apply below_alloc | apply pw_below_drewN | apply below_drew1)) : w.heap.size ≤ gb180)); clear HB; have HB := n0_; have BK180 := n1_; have GW180 := n2_; have GE180 := n3_; clear n0_ n1_ n2_ n3_; clear hb hbox hg) | ((with_reducible refine gate_dst (N := 3) rfl ?_); refine box_event ?hg (N := 3) ?hd (cs := #[.bool false, .bool a1_1, .bool a1_2, .int .i64 a1_3, .string a1_4, .bool a1_5, .int .i64 a1_6, .string a1_7]) (t := 41) ?hr ?_; (case hd => rfl); (case hg => rfl); (case hr => first | (go_simp; done) | (go_simp; rfl)); intro gb181 hg w11 hbox hb; have n0_ := Aside0.mk (blk_below (g := gb180) (o := .cells #[.int .i64 a0_0, .int .i64 a0_1, .bool a0_2, .int .i64 a0_3, .string a0_4] 38 (0, 0)) (by (with_reducible repeat (first | refine blk_drewN ?_ _ | refine blk_drew ?_ | refine blk_alloc ?_ _)); exact BK180.out) hb); have n1_ := Aside0.mk (below_step (by with_reducible repeat first | exact HB.out | apply below_alloc | apply pw_below_drewN | apply below_drew1 | refine below_set ?_ GE180.out) hb); have n2_ := Aside0.mk (hbox); have n3_ := Aside0.mk ((by rw [hg]; exact (below_size (by with_reducible repeat first | exact HB.out | apply below_alloc | apply pw_below_drewN | apply below_drew1 | refine below_set ?_ GE180.out)) : w.heap.size ≤ gb181)); have n4_ := Aside0.mk ((by rw [hg]; exact (below_size (by with_reducible repeat first | exact HB.out | apply below_alloc | apply pw_below_drewN | apply below_drew1 | refine below_set ?_ GE180.out)) : w.heap.size ≤ gb181)); have n5_ := Aside0.mk ((by rw [hg]; exact Nat.ne_of_lt (blk_lt (g := gb180) (o := .cells #[.int .i64 a0_0, .int .i64 a0_1, .bool a0_2, .int .i64 a0_3, .string a0_4] 38 (0, 0)) (by (with_reducible repeat (first | refine blk_drewN ?_ _ | refine blk_drew ?_ | refine blk_alloc ?_ _)); exact BK180.out)) : gb180 ≠ gb181)); have n6_ := Aside0.mk ((by rw [hg]; exact Nat.ne_of_gt (blk_lt (g := gb180) (o := .cells #[.int .i64 a0_0, .int .i64 a0_1, .bool a0_2, .int .i64 a0_3, .string a0_4] 38 (0, 0)) (by (with_reducible repeat (first | refine blk_drewN ?_ _ | refine blk_drew ?_ | refine blk_alloc ?_ _)); exact BK180.out)) : gb181 ≠ gb180)); clear BK180; clear HB; have BK180 := n0_; have HB := n1_; have BK181 := n2_; have GW181 := n3_; have GE181 := n4_; have NB180_181 := n5_; have NB181_180 := n6_; clear n0_ n1_ n2_ n3_ n4_ n5_ n6_; clear hb hbox hg; have hnb12 := NB180_181.out; have hnc12 := NB181_180.out; obtain ⟨hcz13_0, hcz13_1, hcz13_2, hcz13_3, hcz13_4⟩ := bc5 BK180.out; obtain ⟨hfz13_0, hfz13_1, hfz13_2, hfz13_3, hfz13_4⟩ := bf5 BK180.out; obtain ⟨hcz14_0, hcz14_1, hcz14_2, hcz14_3, hcz14_4, hcz14_5, hcz14_6, hcz14_7⟩ := bc8 BK181.out; obtain ⟨hfz14_0, hfz14_1, hfz14_2, hfz14_3, hfz14_4, hfz14_5, hfz14_6, hfz14_7⟩ := bf8 BK181.out))
   go_ret
   exact ⟨by first | rfl | (simp [errW_none, errW_some] <;> rfl) | (simp [*, errW_none, errW_some] <;> rfl), by repeat (first | (with_reducible first | exact HB.out | apply below_alloc | apply pw_below_drewN | apply below_drew1 | refine below_set ?_ GE180.out | refine below_set ?_ GE181.out) | exact HB.out)⟩
 ·rw [if_neg c3] at H
  have c3b0 : (a0_0 == 0) = false := beq_eq_false_iff_ne.mpr c3
  have c3b1 : (a0_0 != 0) = true := bne_iff_ne.mpr c3
  by_cases c15 : a0_0 = 4
  ·rw [if_pos c15] at H
   have c15b0 : (a0_0 == 4) = true := beq_iff_eq.mpr c15
   have c15b1 : (a0_0 != 4) = false := bne_eq_false_iff_eq.mpr c15
   clear c15
   obtain rfl := Option.some.inj H
   go_enter Try.func24, Try.ntmps24
   go_wp2_with (first | ((with_reducible refine gate_dst (N := 2) rfl ?_); refine box_event ?hg (N := 2) ?hd (cs := #[.int .i64 a0_0, .int .i64 a0_1, .bool a0_2, .int .i64 a0_3, .string a0_4]) (t := 38) ?hr ?_; (case hd => rfl); (case hg => rfl); (case hr => first | (go_simp; done) | (go_simp; rfl)); intro gb180 hg w16 hbox hb; have n0_ := Aside0.mk (below_step (by with_reducible repeat first | exact HB.out | apply below_alloc | apply pw_below_drewN | apply below_drew1) hb); have n1_ := Aside0.mk (hbox); have n2_ := Aside0.mk ((by rw [hg]; exact (below_size (by with_reducible repeat first | exact HB.out | apply below_alloc | apply pw_below_drewN | apply below_drew1)) : w.heap.size ≤ gb180)); have n3_ := Aside0.mk ((by rw [hg]; exact (below_size (by with_reducible repeat first | exact HB.out | apply below_alloc | apply pw_below_drewN | apply below_drew1)) : w.heap.size ≤ gb180)); clear HB; have HB := n0_; have BK180 := n1_; have GW180 := n2_; have GE180 := n3_; clear n0_ n1_ n2_ n3_; clear hb hbox hg) | ((with_reducible refine gate_dst (N := 3) rfl ?_); refine box_event ?hg (N := 3) ?hd (cs := #[.bool a1_0, .bool a1_1, .bool a1_2, .int .i64 a1_3, .string a1_4, .bool a1_5, .int .i64 a1_6, .string a1_7]) (t := 41) ?hr ?_; (case hd => rfl); (case hg => rfl); (case hr => first | (go_simp; done) | (go_simp; rfl)); intro gb181 hg w17 hbox hb; have n0_ := Aside0.mk (blk_below (g := gb180) (o := .cells #[.int .i64 a0_0, .int .i64 a0_1, .bool a0_2, .int .i64 a0_3, .string a0_4] 38 (0, 0)) (by (with_reducible repeat (first | refine blk_drewN ?_ _ | refine blk_drew ?_ | refine blk_alloc ?_ _)); exact BK180.out) hb); have n1_ := Aside0.mk (below_step (by with_reducible repeat first | exact HB.out | apply below_alloc | apply pw_below_drewN | apply below_drew1 | refine below_set ?_ GE180.out) hb); have n2_ := Aside0.mk (hbox); have n3_ := Aside0.mk ((by rw [hg]; exact (below_size (by with_reducible repeat first | exact HB.out | apply below_alloc | apply pw_below_drewN | apply below_drew1 | refine below_set ?_ GE180.out)) : w.heap.size ≤ gb181)); have n4_ := Aside0.mk ((by rw [hg]; exact (below_size (by with_reducible repeat first | exact HB.out | apply below_alloc | apply pw_below_drewN | apply below_drew1 | refine below_set ?_ GE180.out)) : w.heap.size ≤ gb181)); have n5_ := Aside0.mk ((by rw [hg]; exact Nat.ne_of_lt (blk_lt (g := gb180) (o := .cells #[.int .i64 a0_0, .int .i64 a0_1, .bool a0_2, .int .i64 a0_3, .string a0_4] 38 (0, 0)) (by (with_reducible repeat (first | refine blk_drewN ?_ _ | refine blk_drew ?_ | refine blk_alloc ?_ _)); exact BK180.out)) : gb180 ≠ gb181)); have n6_ := Aside0.mk ((by rw [hg]; exact Nat.ne_of_gt (blk_lt (g := gb180) (o := .cells #[.int .i64 a0_0, .int .i64 a0_1, .bool a0_2, .int .i64 a0_3, .string a0_4] 38 (0, 0)) (by (with_reducible repeat (first | refine blk_drewN ?_ _ | refine blk_drew ?_ | refine blk_alloc ?_ _)); exact BK180.out)) : gb181 ≠ gb180)); clear BK180; clear HB; have BK180 := n0_; have HB := n1_; have BK181 := n2_; have GW181 := n3_; have GE181 := n4_; have NB180_181 := n5_; have NB181_180 := n6_; clear n0_ n1_ n2_ n3_ n4_ n5_ n6_; clear hb hbox hg; have hnb18 := NB180_181.out; have hnc18 := NB181_180.out; obtain ⟨hcz19_0, hcz19_1, hcz19_2, hcz19_3, hcz19_4⟩ := bc5 BK180.out; obtain ⟨hfz19_0, hfz19_1, hfz19_2, hfz19_3, hfz19_4⟩ := bf5 BK180.out; obtain ⟨hcz20_0, hcz20_1, hcz20_2, hcz20_3, hcz20_4, hcz20_5, hcz20_6, hcz20_7⟩ := bc8 BK181.out; obtain ⟨hfz20_0, hfz20_1, hfz20_2, hfz20_3, hfz20_4, hfz20_5, hfz20_6, hfz20_7⟩ := bf8 BK181.out))
   go_ret
   exact ⟨by first | rfl | (simp [errW_none, errW_some] <;> rfl) | (simp [*, errW_none, errW_some] <;> rfl), by repeat (first | (with_reducible first | exact HB.out | apply below_alloc | apply pw_below_drewN | apply below_drew1 | refine below_set ?_ GE180.out | refine below_set ?_ GE181.out) | exact HB.out)⟩
  ·rw [if_neg c15] at H
   have c15b0 : (a0_0 == 4) = false := beq_eq_false_iff_ne.mpr c15
   have c15b1 : (a0_0 != 4) = true := bne_iff_ne.mpr c15
   by_cases c21 : a0_0 = 5
   ·rw [if_pos c21] at H
    have c21b0 : (a0_0 == 5) = true := beq_iff_eq.mpr c21
    have c21b1 : (a0_0 != 5) = false := bne_eq_false_iff_eq.mpr c21
    clear c21
    obtain rfl := Option.some.inj H
    go_enter Try.func24, Try.ntmps24
    go_wp2_with (first | ((with_reducible refine gate_dst (N := 2) rfl ?_); refine box_event ?hg (N := 2) ?hd (cs := #[.int .i64 a0_0, .int .i64 a0_1, .bool a0_2, .int .i64 a0_3, .string a0_4]) (t := 38) ?hr ?_; (case hd => rfl); (case hg => rfl); (case hr => first | (go_simp; done) | (go_simp; rfl)); intro gb180 hg w22 hbox hb; have n0_ := Aside0.mk (below_step (by with_reducible repeat first | exact HB.out | apply below_alloc | apply pw_below_drewN | apply below_drew1) hb); have n1_ := Aside0.mk (hbox); have n2_ := Aside0.mk ((by rw [hg]; exact (below_size (by with_reducible repeat first | exact HB.out | apply below_alloc | apply pw_below_drewN | apply below_drew1)) : w.heap.size ≤ gb180)); have n3_ := Aside0.mk ((by rw [hg]; exact (below_size (by with_reducible repeat first | exact HB.out | apply below_alloc | apply pw_below_drewN | apply below_drew1)) : w.heap.size ≤ gb180)); clear HB; have HB := n0_; have BK180 := n1_; have GW180 := n2_; have GE180 := n3_; clear n0_ n1_ n2_ n3_; clear hb hbox hg) | ((with_reducible refine gate_dst (N := 3) rfl ?_); refine box_event ?hg (N := 3) ?hd (cs := #[.bool a1_0, .bool a1_1, .bool a1_2, .int .i64 a1_3, .string a1_4, .bool a1_5, .int .i64 a1_6, .string a1_7]) (t := 41) ?hr ?_; (case hd => rfl); (case hg => rfl); (case hr => first | (go_simp; done) | (go_simp; rfl)); intro gb181 hg w23 hbox hb; have n0_ := Aside0.mk (blk_below (g := gb180) (o := .cells #[.int .i64 a0_0, .int .i64 a0_1, .bool a0_2, .int .i64 a0_3, .string a0_4] 38 (0, 0)) (by (with_reducible repeat (first | refine blk_drewN ?_ _ | refine blk_drew ?_ | refine blk_alloc ?_ _)); exact BK180.out) hb); have n1_ := Aside0.mk (below_step (by with_reducible repeat first | exact HB.out | apply below_alloc | apply pw_below_drewN | apply below_drew1 | refine below_set ?_ GE180.out) hb); have n2_ := Aside0.mk (hbox); have n3_ := Aside0.mk ((by rw [hg]; exact (below_size (by with_reducible repeat first | exact HB.out | apply below_alloc | apply pw_below_drewN | apply below_drew1 | refine below_set ?_ GE180.out)) : w.heap.size ≤ gb181)); have n4_ := Aside0.mk ((by rw [hg]; exact (below_size (by with_reducible repeat first | exact HB.out | apply below_alloc | apply pw_below_drewN | apply below_drew1 | refine below_set ?_ GE180.out)) : w.heap.size ≤ gb181)); have n5_ := Aside0.mk ((by rw [hg]; exact Nat.ne_of_lt (blk_lt (g := gb180) (o := .cells #[.int .i64 a0_0, .int .i64 a0_1, .bool a0_2, .int .i64 a0_3, .string a0_4] 38 (0, 0)) (by (with_reducible repeat (first | refine blk_drewN ?_ _ | refine blk_drew ?_ | refine blk_alloc ?_ _)); exact BK180.out)) : gb180 ≠ gb181)); have n6_ := Aside0.mk ((by rw [hg]; exact Nat.ne_of_gt (blk_lt (g := gb180) (o := .cells #[.int .i64 a0_0, .int .i64 a0_1, .bool a0_2, .int .i64 a0_3, .string a0_4] 38 (0, 0)) (by (with_reducible repeat (first | refine blk_drewN ?_ _ | refine blk_drew ?_ | refine blk_alloc ?_ _)); exact BK180.out)) : gb181 ≠ gb180)); clear BK180; clear HB; have BK180 := n0_; have HB := n1_; have BK181 := n2_; have GW181 := n3_; have GE181 := n4_; have NB180_181 := n5_; have NB181_180 := n6_; clear n0_ n1_ n2_ n3_ n4_ n5_ n6_; clear hb hbox hg; have hnb24 := NB180_181.out; have hnc24 := NB181_180.out; obtain ⟨hcz25_0, hcz25_1, hcz25_2, hcz25_3, hcz25_4⟩ := bc5 BK180.out; obtain ⟨hfz25_0, hfz25_1, hfz25_2, hfz25_3, hfz25_4⟩ := bf5 BK180.out; obtain ⟨hcz26_0, hcz26_1, hcz26_2, hcz26_3, hcz26_4, hcz26_5, hcz26_6, hcz26_7⟩ := bc8 BK181.out; obtain ⟨hfz26_0, hfz26_1, hfz26_2, hfz26_3, hfz26_4, hfz26_5, hfz26_6, hfz26_7⟩ := bf8 BK181.out))
    go_ret
    exact ⟨by first | rfl | (simp [errW_none, errW_some] <;> rfl) | (simp [*, errW_none, errW_some] <;> rfl), by repeat (first | (with_reducible first | exact HB.out | apply below_alloc | apply pw_below_drewN | apply below_drew1 | refine below_set ?_ GE180.out | refine below_set ?_ GE181.out) | exact HB.out)⟩
   ·rw [if_neg c21] at H
    have c21b0 : (a0_0 == 5) = false := beq_eq_false_iff_ne.mpr c21
    have c21b1 : (a0_0 != 5) = true := bne_iff_ne.mpr c21
    have HC27 := Aside0.mk H
    clear H
    go_enter Try.func24, Try.ntmps24
    go_upto_region 8 with (first | ((with_reducible refine gate_dst (N := 2) rfl ?_); refine box_event ?hg (N := 2) ?hd (cs := #[.int .i64 a0_0, .int .i64 a0_1, .bool a0_2, .int .i64 a0_3, .string a0_4]) (t := 38) ?hr ?_; (case hd => rfl); (case hg => rfl); (case hr => first | (go_simp; done) | (go_simp; rfl)); intro gb180 hg w28 hbox hb; have n0_ := Aside0.mk (below_step (by with_reducible repeat first | exact HB.out | apply below_alloc | apply pw_below_drewN | apply below_drew1) hb); have n1_ := Aside0.mk (hbox); have n2_ := Aside0.mk ((by rw [hg]; exact (below_size (by with_reducible repeat first | exact HB.out | apply below_alloc | apply pw_below_drewN | apply below_drew1)) : w.heap.size ≤ gb180)); have n3_ := Aside0.mk ((by rw [hg]; exact (below_size (by with_reducible repeat first | exact HB.out | apply below_alloc | apply pw_below_drewN | apply below_drew1)) : w.heap.size ≤ gb180)); clear HB; have HB := n0_; have BK180 := n1_; have GW180 := n2_; have GE180 := n3_; clear n0_ n1_ n2_ n3_; clear hb hbox hg) | ((with_reducible refine gate_dst (N := 3) rfl ?_); refine box_event ?hg (N := 3) ?hd (cs := #[.bool a1_0, .bool a1_1, .bool a1_2, .int .i64 a1_3, .string a1_4, .bool a1_5, .int .i64 a1_6, .string a1_7]) (t := 41) ?hr ?_; (case hd => rfl); (case hg => rfl); (case hr => first | (go_simp; done) | (go_simp; rfl)); intro gb181 hg w29 hbox hb; have n0_ := Aside0.mk (blk_below (g := gb180) (o := .cells #[.int .i64 a0_0, .int .i64 a0_1, .bool a0_2, .int .i64 a0_3, .string a0_4] 38 (0, 0)) (by (with_reducible repeat (first | refine blk_drewN ?_ _ | refine blk_drew ?_ | refine blk_alloc ?_ _)); exact BK180.out) hb); have n1_ := Aside0.mk (below_step (by with_reducible repeat first | exact HB.out | apply below_alloc | apply pw_below_drewN | apply below_drew1 | refine below_set ?_ GE180.out) hb); have n2_ := Aside0.mk (hbox); have n3_ := Aside0.mk ((by rw [hg]; exact (below_size (by with_reducible repeat first | exact HB.out | apply below_alloc | apply pw_below_drewN | apply below_drew1 | refine below_set ?_ GE180.out)) : w.heap.size ≤ gb181)); have n4_ := Aside0.mk ((by rw [hg]; exact (below_size (by with_reducible repeat first | exact HB.out | apply below_alloc | apply pw_below_drewN | apply below_drew1 | refine below_set ?_ GE180.out)) : w.heap.size ≤ gb181)); have n5_ := Aside0.mk ((by rw [hg]; exact Nat.ne_of_lt (blk_lt (g := gb180) (o := .cells #[.int .i64 a0_0, .int .i64 a0_1, .bool a0_2, .int .i64 a0_3, .string a0_4] 38 (0, 0)) (by (with_reducible repeat (first | refine blk_drewN ?_ _ | refine blk_drew ?_ | refine blk_alloc ?_ _)); exact BK180.out)) : gb180 ≠ gb181)); have n6_ := Aside0.mk ((by rw [hg]; exact Nat.ne_of_gt (blk_lt (g := gb180) (o := .cells #[.int .i64 a0_0, .int .i64 a0_1, .bool a0_2, .int .i64 a0_3, .string a0_4] 38 (0, 0)) (by (with_reducible repeat (first | refine blk_drewN ?_ _ | refine blk_drew ?_ | refine blk_alloc ?_ _)); exact BK180.out)) : gb181 ≠ gb180)); clear BK180; clear HB; have BK180 := n0_; have HB := n1_; have BK181 := n2_; have GW181 := n3_; have GE181 := n4_; have NB180_181 := n5_; have NB181_180 := n6_; clear n0_ n1_ n2_ n3_ n4_ n5_ n6_; clear hb hbox hg; have hnb30 := NB180_181.out; have hnc30 := NB181_180.out; obtain ⟨hcz31_0, hcz31_1, hcz31_2, hcz31_3, hcz31_4⟩ := bc5 BK180.out; obtain ⟨hfz31_0, hfz31_1, hfz31_2, hfz31_3, hfz31_4⟩ := bf5 BK180.out))
    (try simp only [Act.put, List.setIfInBounds_toArray, List.set_cons_zero, List.set_cons_succ])
    go_cut [32] (fun v32 wc => ∃ (kq : Nat) (x32_26 : Bool), v32 = .bool x32_26 ∧ Aside0 (zone_May.j0 kq x32_26 a0_0 a0_1 a0_2 a0_3 a0_4 a1_0 a1_1 a1_2 a1_3 a1_4 a1_5 a1_6 a1_7 = some r) ∧ Aside0 (kq ≤ k) ∧ Aside0 (wc.heap[gb180]? = some (.cells #[.int .i64 a0_0, .int .i64 a0_1, .bool a0_2, .int .i64 a0_3, .string a0_4] 38 (0, 0))) ∧ Aside0 (wc.heap[gb181]? = some (.cells #[.bool a1_0, .bool a1_1, .bool a1_2, .int .i64 a1_3, .string a1_4, .bool a1_5, .int .i64 a1_6, .string a1_7] 41 (0, 0))) ∧ Aside0 (Below w.heap.size w wc))
    case first =>
     have H := HC27.out
     clear HC27
     by_cases c32 : a1_1 = true
     ·subst c32
      have H1 : (zone_May.j0 k a0_2 a0_0 a0_1 a0_2 a0_3 a0_4 a1_0 true a1_2 a1_3 a1_4 a1_5 a1_6 a1_7) = some r := by rw [if_pos rfl] at H; exact H
      clear H
      have H := H1
      clear H1
      have H' := Aside0.mk H
      clear H
      have hnb33 := NB181_180.out
      have hnc33 := NB180_181.out
      obtain ⟨hcz34_0, hcz34_1, hcz34_2, hcz34_3, hcz34_4, hcz34_5, hcz34_6, hcz34_7⟩ := bc8 BK181.out
      obtain ⟨hfz34_0, hfz34_1, hfz34_2, hfz34_3, hfz34_4, hfz34_5, hfz34_6, hfz34_7⟩ := bf8 BK181.out
      obtain ⟨hcz35_0, hcz35_1, hcz35_2, hcz35_3, hcz35_4⟩ := bc5 BK180.out
      obtain ⟨hfz35_0, hfz35_1, hfz35_2, hfz35_3, hfz35_4⟩ := bf5 BK180.out
      go_wp2
      go_meet
      case rel => exact ⟨_, (a0_2), (by first | rfl | (simp; done) | (simp [*]; done)), H', ⟨by first | omega | exact Nat.le_refl _⟩, ⟨by (with_reducible repeat (first | refine blk_drewN ?_ _ | refine blk_drew ?_ | refine blk_alloc ?_ _)); exact BK180.out⟩, ⟨by (with_reducible repeat (first | refine blk_drewN ?_ _ | refine blk_drew ?_ | refine blk_alloc ?_ _)); exact BK181.out⟩, ⟨by repeat (first | (with_reducible first | exact HB.out | apply below_alloc | apply pw_below_drewN | apply below_drew1 | refine below_set ?_ GE180.out | refine below_set ?_ GE181.out) | exact HB.out)⟩⟩
     ·replace c32 := Bool.eq_false_iff.mpr c32
      subst c32
      have H1 : (zone_May.j0 k true a0_0 a0_1 a0_2 a0_3 a0_4 a1_0 false a1_2 a1_3 a1_4 a1_5 a1_6 a1_7) = some r := by rw [if_neg (show ¬ (false = true) by decide)] at H; exact H
      clear H
      have H := H1
      clear H1
      have H' := Aside0.mk H
      clear H
      have hnb36 := NB181_180.out
      have hnc36 := NB180_181.out
      obtain ⟨hcz37_0, hcz37_1, hcz37_2, hcz37_3, hcz37_4, hcz37_5, hcz37_6, hcz37_7⟩ := bc8 BK181.out
      obtain ⟨hfz37_0, hfz37_1, hfz37_2, hfz37_3, hfz37_4, hfz37_5, hfz37_6, hfz37_7⟩ := bf8 BK181.out
      go_wp2
      go_meet
      case rel => exact ⟨_, (true), (by first | rfl | (simp; done) | (simp [*]; done)), H', ⟨by first | omega | exact Nat.le_refl _⟩, ⟨by (with_reducible repeat (first | refine blk_drewN ?_ _ | refine blk_drew ?_ | refine blk_alloc ?_ _)); exact BK180.out⟩, ⟨by (with_reducible repeat (first | refine blk_drewN ?_ _ | refine blk_drew ?_ | refine blk_alloc ?_ _)); exact BK181.out⟩, ⟨by repeat (first | (with_reducible first | exact HB.out | apply below_alloc | apply pw_below_drewN | apply below_drew1 | refine below_set ?_ GE180.out | refine below_set ?_ GE181.out) | exact HB.out)⟩⟩
    case rest =>
     clear HC27
     try clear c1
     try clear c2
     try clear p2
     try clear c3
     try clear c3b0
     try clear c3b1
     try clear c4
     try clear c7
     try clear c12
     try clear c15
     try clear c15b0
     try clear c15b1
     try clear c18
     try clear c21
     try clear c21b0
     try clear c21b1
     try clear c24
     try clear c30
     try clear c32
     try clear c33
     try clear c36
     try clear hcz13_0 hcz13_1 hcz13_2 hcz13_3 hcz13_4
     try clear hcz14_0 hcz14_1 hcz14_2 hcz14_3 hcz14_4 hcz14_5 hcz14_6 hcz14_7
     try clear hcz19_0 hcz19_1 hcz19_2 hcz19_3 hcz19_4
     try clear hcz20_0 hcz20_1 hcz20_2 hcz20_3 hcz20_4 hcz20_5 hcz20_6 hcz20_7
     try clear hcz25_0 hcz25_1 hcz25_2 hcz25_3 hcz25_4
     try clear hcz26_0 hcz26_1 hcz26_2 hcz26_3 hcz26_4 hcz26_5 hcz26_6 hcz26_7
     try clear hcz31_0 hcz31_1 hcz31_2 hcz31_3 hcz31_4
     try clear hcz34_0 hcz34_1 hcz34_2 hcz34_3 hcz34_4 hcz34_5 hcz34_6 hcz34_7
     try clear hcz35_0 hcz35_1 hcz35_2 hcz35_3 hcz35_4
     try clear hcz37_0 hcz37_1 hcz37_2 hcz37_3 hcz37_4 hcz37_5 hcz37_6 hcz37_7
     try clear hcz8_0 hcz8_1 hcz8_2 hcz8_3 hcz8_4
     try clear hcz9_0 hcz9_1 hcz9_2 hcz9_3 hcz9_4 hcz9_5 hcz9_6 hcz9_7
     try clear hfz13_0 hfz13_1 hfz13_2 hfz13_3 hfz13_4
     try clear hfz14_0 hfz14_1 hfz14_2 hfz14_3 hfz14_4 hfz14_5 hfz14_6 hfz14_7
     try clear hfz19_0 hfz19_1 hfz19_2 hfz19_3 hfz19_4
     try clear hfz20_0 hfz20_1 hfz20_2 hfz20_3 hfz20_4 hfz20_5 hfz20_6 hfz20_7
     try clear hfz25_0 hfz25_1 hfz25_2 hfz25_3 hfz25_4
     try clear hfz26_0 hfz26_1 hfz26_2 hfz26_3 hfz26_4 hfz26_5 hfz26_6 hfz26_7
     try clear hfz31_0 hfz31_1 hfz31_2 hfz31_3 hfz31_4
     try clear hfz34_0 hfz34_1 hfz34_2 hfz34_3 hfz34_4 hfz34_5 hfz34_6 hfz34_7
     try clear hfz35_0 hfz35_1 hfz35_2 hfz35_3 hfz35_4
     try clear hfz37_0 hfz37_1 hfz37_2 hfz37_3 hfz37_4 hfz37_5 hfz37_6 hfz37_7
     try clear hfz8_0 hfz8_1 hfz8_2 hfz8_3 hfz8_4
     try clear hfz9_0 hfz9_1 hfz9_2 hfz9_3 hfz9_4 hfz9_5 hfz9_6 hfz9_7
     obtain ⟨kq, x32_26, rfl, HA, HJ26, BK180, BK181, HB⟩ := hcut
     cases kq with
     | zero => exact absurd HA.out (by simp [zone_May.j0])
     | succ kj26 =>
      have H := HA.out
      clear HA
      simp only [zone_May.j0] at H
      by_cases c38 : x32_26 = true
      ·subst c38
       have H1 : (some false) = some r := by rw [if_pos rfl] at H; exact H
       clear H
       have H := H1
       clear H1
       obtain rfl := Option.some.inj H
       go_wp2
       go_ret
       exact ⟨by first | rfl | (simp [errW_none, errW_some] <;> rfl) | (simp [*, errW_none, errW_some] <;> rfl), by repeat (first | (with_reducible first | exact HB.out | apply below_alloc | apply pw_below_drewN | apply below_drew1 | refine below_set ?_ GE180.out | refine below_set ?_ GE181.out) | exact HB.out)⟩
      ·replace c38 := Bool.eq_false_iff.mpr c38
       subst c38
       have H1 : ((zone_solid.f a1_2 a1_3 a1_4).bind fun bt182 => ((kinds_Compare_c.f bt182.1 bt182.2.1 bt182.2.2 a0_2 a0_3 a0_4).bind fun t185 => ((zone_solid.f a1_5 a1_6 a1_7).bind fun bt186 => ((kinds_Compare_c.f bt186.1 bt186.2.1 bt186.2.2 a0_2 a0_3 a0_4).bind fun t189 => (if a0_0 = 1 then (if t185 ≤ 0 then (some (decide (t189 ≥ 0))) else (some false)) else (if a0_0 = 2 then (some (decide (t185 < 0))) else (if a0_0 = 3 then (some (decide (t189 ≥ 0))) else (some false)))))))) = some r := by rw [if_neg (show ¬ (false = true) by decide)] at H; exact H
       clear H
       have H := H1
       clear H1
       replace H := Option.bind_eq_some_iff.mp H
       obtain ⟨⟨t182, t183, t184⟩, A390, H⟩ := H
       replace H : ((kinds_Compare_c.f t182 t183 t184 a0_2 a0_3 a0_4).bind fun t185 => ((zone_solid.f a1_5 a1_6 a1_7).bind fun bt186 => ((kinds_Compare_c.f bt186.1 bt186.2.1 bt186.2.2 a0_2 a0_3 a0_4).bind fun t189 => (if a0_0 = 1 then (if t185 ≤ 0 then (some (decide (t189 ≥ 0))) else (some false)) else (if a0_0 = 2 then (some (decide (t185 < 0))) else (if a0_0 = 3 then (some (decide (t189 ≥ 0))) else (some false))))))) = some r := H
       have A39 := Aside0.mk A390
       clear A390
       replace H := Option.bind_eq_some_iff.mp H
       obtain ⟨t185, A400, H⟩ := H
       replace H : ((zone_solid.f a1_5 a1_6 a1_7).bind fun bt186 => ((kinds_Compare_c.f bt186.1 bt186.2.1 bt186.2.2 a0_2 a0_3 a0_4).bind fun t189 => (if a0_0 = 1 then (if t185 ≤ 0 then (some (decide (t189 ≥ 0))) else (some false)) else (if a0_0 = 2 then (some (decide (t185 < 0))) else (if a0_0 = 3 then (some (decide (t189 ≥ 0))) else (some false)))))) = some r := H
       have A40 := Aside0.mk A400
       clear A400
       replace H := Option.bind_eq_some_iff.mp H
       obtain ⟨⟨t186, t187, t188⟩, A410, H⟩ := H
       replace H : ((kinds_Compare_c.f t186 t187 t188 a0_2 a0_3 a0_4).bind fun t189 => (if a0_0 = 1 then (if t185 ≤ 0 then (some (decide (t189 ≥ 0))) else (some false)) else (if a0_0 = 2 then (some (decide (t185 < 0))) else (if a0_0 = 3 then (some (decide (t189 ≥ 0))) else (some false))))) = some r := H
       have A41 := Aside0.mk A410
       clear A410
       replace H := Option.bind_eq_some_iff.mp H
       obtain ⟨t189, A420, H⟩ := H
       replace H : (if a0_0 = 1 then (if t185 ≤ 0 then (some (decide (t189 ≥ 0))) else (some false)) else (if a0_0 = 2 then (some (decide (t185 < 0))) else (if a0_0 = 3 then (some (decide (t189 ≥ 0))) else (some false)))) = some r := H
       have A42 := Aside0.mk A420
       clear A420
       by_cases c43 : a0_0 = 1
       ·rw [if_pos c43] at H
        have c43b0 : (a0_0 == 1) = true := beq_iff_eq.mpr c43
        have c43b1 : (a0_0 != 1) = false := bne_eq_false_iff_eq.mpr c43
        clear c43
        by_cases c44 : t185 ≤ 0
        ·rw [if_pos c44] at H
         have c44b0 : decide (t185 ≤ 0) = true := decide_eq_true c44
         clear c44
         obtain rfl := Option.some.inj H
         try go_wp2
         have n0_ := Aside0.mk (blk_drew BK180.out)
         have n1_ := Aside0.mk (blk_drew BK181.out)
         have n2_ := Aside0.mk (below_drew1 HB.out)
         clear BK180
         clear BK181
         clear HB
         have BK180 := n0_
         have BK181 := n1_
         have HB := n2_
         clear n0_ n1_ n2_
         refine start_ (n := 14) (S := fun w' => w'.cell? ⟨gb181, 0, none⟩ = some (.bool a1_0) ∧ w'.cell? ⟨gb181, 1, none⟩ = some (.bool a1_1) ∧ w'.cell? ⟨gb181, 2, none⟩ = some (.bool a1_2) ∧ w'.cell? ⟨gb181, 3, none⟩ = some (.int .i64 a1_3) ∧ w'.cell? ⟨gb181, 4, none⟩ = some (.string a1_4) ∧ w'.cell? ⟨gb181, 5, none⟩ = some (.bool a1_5) ∧ w'.cell? ⟨gb181, 6, none⟩ = some (.int .i64 a1_6) ∧ w'.cell? ⟨gb181, 7, none⟩ = some (.string a1_7) ∧ w'.cell? ⟨gb180, 0, none⟩ = some (.int .i64 a0_0) ∧ w'.cell? ⟨gb180, 1, none⟩ = some (.int .i64 a0_1) ∧ w'.cell? ⟨gb180, 2, none⟩ = some (.bool a0_2) ∧ w'.cell? ⟨gb180, 3, none⟩ = some (.int .i64 a0_3) ∧ w'.cell? ⟨gb180, 4, none⟩ = some (.string a0_4)) (ds := []) #[false, false, false, false, false, false, false, false, false, false, false, false, false, false] (by kernel_rfl) rfl rfl ⟨(blk_cell BK181.out 0).trans rfl, (blk_cell BK181.out 1).trans rfl, (blk_cell BK181.out 2).trans rfl, (blk_cell BK181.out 3).trans rfl, (blk_cell BK181.out 4).trans rfl, (blk_cell BK181.out 5).trans rfl, (blk_cell BK181.out 6).trans rfl, (blk_cell BK181.out 7).trans rfl, (blk_cell BK180.out 0).trans rfl, (blk_cell BK180.out 1).trans rfl, (blk_cell BK180.out 2).trans rfl, (blk_cell BK180.out 3).trans rfl, (blk_cell BK180.out 4).trans rfl⟩ (fun hHeld => ?_); refine with_tabW zone_May.tab10 zone_May.bits10 (fun HT_ HW_ => ?_)
         generalize wc.drew = w45 at BK180 BK181 HB hHeld ⊢
         refine pure_ (i := 0) (N := some 33) (v := ?_) (a' := ?_) #[true, false, false, false, false, false, false, false, false, false, false, false, false, false] rfl rfl (any_of HT_.out (by kernel_rfl)) (fun _ _ _ h => h) (Or.inl ⟨by rfl, ?_⟩) ?_ ?_
         rotate_left
         ·intro w'
          go_simp
          with_reducible rfl
         rotate_left
         ·simp only [Act.put, List.setIfInBounds_toArray, List.set_cons_zero, List.set_cons_succ, i64_w, i32_w]
          rfl
         refine pure_ (i := 3) (N := some 36) (v := ?_) (a' := ?_) #[true, false, false, true, false, false, false, false, false, false, false, false, false, false] rfl rfl (any_of HT_.out (by kernel_rfl)) (fun _ _ _ h => h) (Or.inl ⟨by rfl, ?_⟩) ?_ ?_
         rotate_left
         ·intro w'
          go_simp
          with_reducible rfl
         rotate_left
         ·simp only [Act.put, List.setIfInBounds_toArray, List.set_cons_zero, List.set_cons_succ, i64_w, i32_w]
          rfl
         refine pure_ (i := 6) (N := some 39) (v := ?_) (a' := ?_) #[true, false, false, true, false, false, true, false, false, false, false, false, false, false] rfl rfl (any_of HT_.out (by kernel_rfl)) (fun _ _ _ h => h) (Or.inl ⟨by rfl, ?_⟩) ?_ ?_
         rotate_left
         ·intro w'
          go_simp
          with_reducible rfl
         rotate_left
         ·simp only [Act.put, List.setIfInBounds_toArray, List.set_cons_zero, List.set_cons_succ, i64_w, i32_w]
          rfl
         refine pure_ (i := 9) (N := some 42) (v := ?_) (a' := ?_) #[true, false, false, true, false, false, true, false, false, true, false, false, false, false] rfl rfl (any_of HT_.out (by kernel_rfl)) (fun _ _ _ h => h) (Or.inl ⟨by rfl, ?_⟩) ?_ ?_
         rotate_left
         ·intro w'
          go_simp
          with_reducible rfl
         rotate_left
         ·simp only [Act.put, List.setIfInBounds_toArray, List.set_cons_zero, List.set_cons_succ, i64_w, i32_w]
          rfl
         refine take_ (i := 1) (N := some 34) (v := ?_) (a' := ?_) #[true, true, false, true, false, false, true, false, false, true, false, false, false, false] rfl rfl (take_ofW HT_.out HW_.out (by kernel_rfl)) (fun _ _ _ h => h) (Or.inl ⟨by rfl, ?_⟩) hHeld ?_ ?_
         rotate_left
         ·rintro w' ⟨s0, s1, s2, s3, s4, s5, s6, s7, s8, s9, s10, s11, s12⟩
          go_simp
          with_reducible rfl
         rotate_left
         ·simp only [Act.put, List.setIfInBounds_toArray, List.set_cons_zero, List.set_cons_succ, i64_w, i32_w]
          rfl
         refine take_ (i := 4) (N := some 37) (v := ?_) (a' := ?_) #[true, true, false, true, true, false, true, false, false, true, false, false, false, false] rfl rfl (take_ofW HT_.out HW_.out (by kernel_rfl)) (fun _ _ _ h => h) (Or.inl ⟨by rfl, ?_⟩) hHeld ?_ ?_
         rotate_left
         ·rintro w' ⟨s0, s1, s2, s3, s4, s5, s6, s7, s8, s9, s10, s11, s12⟩
          go_simp
          with_reducible rfl
         rotate_left
         ·simp only [Act.put, List.setIfInBounds_toArray, List.set_cons_zero, List.set_cons_succ, i64_w, i32_w]
          rfl
         refine take_ (i := 7) (N := some 40) (v := ?_) (a' := ?_) #[true, true, false, true, true, false, true, true, false, true, false, false, false, false] rfl rfl (take_ofW HT_.out HW_.out (by kernel_rfl)) (fun _ _ _ h => h) (Or.inl ⟨by rfl, ?_⟩) hHeld ?_ ?_
         rotate_left
         ·rintro w' ⟨s0, s1, s2, s3, s4, s5, s6, s7, s8, s9, s10, s11, s12⟩
          go_simp
          with_reducible rfl
         rotate_left
         ·simp only [Act.put, List.setIfInBounds_toArray, List.set_cons_zero, List.set_cons_succ, i64_w, i32_w]
          rfl
         refine take_ (i := 10) (N := some 43) (v := ?_) (a' := ?_) #[true, true, false, true, true, false, true, true, false, true, true, false, false, false] rfl rfl (take_ofW HT_.out HW_.out (by kernel_rfl)) (fun _ _ _ h => h) (Or.inl ⟨by rfl, ?_⟩) hHeld ?_ ?_
         rotate_left
         ·rintro w' ⟨s0, s1, s2, s3, s4, s5, s6, s7, s8, s9, s10, s11, s12⟩
          go_simp
          with_reducible rfl
         rotate_left
         ·simp only [Act.put, List.setIfInBounds_toArray, List.set_cons_zero, List.set_cons_succ, i64_w, i32_w]
          rfl
         refine one_ (i := 2) (N := some 35) #[true, true, true, true, true, false, true, true, false, true, true, false, false, false] rfl rfl (one_of HT_.out (by kernel_rfl)) (by decide) (fun K hK => ?_)
         refine goes_ Try.func48 (by kernel_rfl) rfl #[.agg #[.bool a1_2, .int .i64 a1_3, .string a1_4]] (by rfl) rfl rfl (by (try simp only [List.map_toArray, List.map_cons, List.map_nil]); first | done | rfl | (simp only [List.length_drop, List.length_take]; rfl)) ?_
         with_reducible refine (zone_solid.calls a1_2 a1_3 a1_4 t182 t183 t184 _ A39.out).mono ?_
         rintro e w46 ⟨rfl, hb⟩
         refine ⟨_, rfl, ?_⟩
         have n0_ := Aside0.mk (blk_below (g := gb180) (o := .cells #[.int .i64 a0_0, .int .i64 a0_1, .bool a0_2, .int .i64 a0_3, .string a0_4] 38 (0, 0)) (by (with_reducible repeat (first | refine blk_drewN ?_ _ | refine blk_drew ?_ | refine blk_alloc ?_ _)); exact BK180.out) hb)
         have n1_ := Aside0.mk (blk_below (g := gb181) (o := .cells #[.bool a1_0, .bool a1_1, .bool a1_2, .int .i64 a1_3, .string a1_4, .bool a1_5, .int .i64 a1_6, .string a1_7] 41 (0, 0)) (by (with_reducible repeat (first | refine blk_drewN ?_ _ | refine blk_drew ?_ | refine blk_alloc ?_ _)); exact BK181.out) hb)
         have n2_ := Aside0.mk (below_step (by with_reducible repeat first | exact HB.out | apply below_alloc | apply pw_below_drewN | apply below_drew1 | refine below_set ?_ GE180.out | refine below_set ?_ GE181.out) hb)
         clear BK180
         clear BK181
         clear HB
         have BK180 := n0_
         have BK181 := n1_
         have HB := n2_
         clear n0_ n1_ n2_
         (try clear hb)
         (try clear hb2)
         (try clear hk)
         (try clear hi)
         refine hK.out _ _ ⟨(blk_cell BK181.out 0).trans rfl, (blk_cell BK181.out 1).trans rfl, (blk_cell BK181.out 2).trans rfl, (blk_cell BK181.out 3).trans rfl, (blk_cell BK181.out 4).trans rfl, (blk_cell BK181.out 5).trans rfl, (blk_cell BK181.out 6).trans rfl, (blk_cell BK181.out 7).trans rfl, (blk_cell BK180.out 0).trans rfl, (blk_cell BK180.out 1).trans rfl, (blk_cell BK180.out 2).trans rfl, (blk_cell BK180.out 3).trans rfl, (blk_cell BK180.out 4).trans rfl⟩ (fun hHeld => ?_)
         clear hK K
         refine norm_ (a' := ?_) ?_ ?_
         rotate_left
         ·show Act.put _ (some 35) _ = _
          simp only [Act.put, List.setIfInBounds_toArray, List.set_cons_zero, List.set_cons_succ, i64_w, i32_w]
          rfl
         refine one_ (i := 5) (N := some 38) #[true, true, true, true, true, true, true, true, false, true, true, false, false, false] rfl rfl (one_of HT_.out (by kernel_rfl)) (by decide) (fun K hK => ?_)
         refine goes_ Try.func45 (by kernel_rfl) rfl #[.agg #[.bool t182, .int .i64 t183, .string t184], .agg #[.bool a0_2, .int .i64 a0_3, .string a0_4]] (by rfl) rfl rfl (by (try simp only [List.map_toArray, List.map_cons, List.map_nil]); first | done | rfl | (simp only [List.length_drop, List.length_take]; rfl)) ?_
         with_reducible refine (kinds_Compare_c.calls t182 t183 t184 a0_2 a0_3 a0_4 t185 _ A40.out).mono ?_
         rintro e w47 ⟨rfl, hb⟩
         refine ⟨_, rfl, ?_⟩
         have n0_ := Aside0.mk (blk_below (g := gb180) (o := .cells #[.int .i64 a0_0, .int .i64 a0_1, .bool a0_2, .int .i64 a0_3, .string a0_4] 38 (0, 0)) (by (with_reducible repeat (first | refine blk_drewN ?_ _ | refine blk_drew ?_ | refine blk_alloc ?_ _)); exact BK180.out) hb)
         have n1_ := Aside0.mk (blk_below (g := gb181) (o := .cells #[.bool a1_0, .bool a1_1, .bool a1_2, .int .i64 a1_3, .string a1_4, .bool a1_5, .int .i64 a1_6, .string a1_7] 41 (0, 0)) (by (with_reducible repeat (first | refine blk_drewN ?_ _ | refine blk_drew ?_ | refine blk_alloc ?_ _)); exact BK181.out) hb)
         have n2_ := Aside0.mk (below_step (by with_reducible repeat first | exact HB.out | apply below_alloc | apply pw_below_drewN | apply below_drew1 | refine below_set ?_ GE180.out | refine below_set ?_ GE181.out) hb)
         clear BK180
         clear BK181
         clear HB
         have BK180 := n0_
         have BK181 := n1_
         have HB := n2_
         clear n0_ n1_ n2_
         (try clear hb)
         (try clear hb2)
         (try clear hk)
         (try clear hi)
         refine hK.out _ _ ⟨(blk_cell BK181.out 0).trans rfl, (blk_cell BK181.out 1).trans rfl, (blk_cell BK181.out 2).trans rfl, (blk_cell BK181.out 3).trans rfl, (blk_cell BK181.out 4).trans rfl, (blk_cell BK181.out 5).trans rfl, (blk_cell BK181.out 6).trans rfl, (blk_cell BK181.out 7).trans rfl, (blk_cell BK180.out 0).trans rfl, (blk_cell BK180.out 1).trans rfl, (blk_cell BK180.out 2).trans rfl, (blk_cell BK180.out 3).trans rfl, (blk_cell BK180.out 4).trans rfl⟩ (fun hHeld => ?_)
         clear hK K
         refine norm_ (a' := ?_) ?_ ?_
         rotate_left
         ·show Act.put _ (some 38) _ = _
          simp only [Act.put, List.setIfInBounds_toArray, List.set_cons_zero, List.set_cons_succ, i64_w, i32_w]
          rfl
         refine one_ (i := 8) (N := some 41) #[true, true, true, true, true, true, true, true, true, true, true, false, false, false] rfl rfl (one_of HT_.out (by kernel_rfl)) (by decide) (fun K hK => ?_)
         refine goes_ Try.func48 (by kernel_rfl) rfl #[.agg #[.bool a1_5, .int .i64 a1_6, .string a1_7]] (by rfl) rfl rfl (by (try simp only [List.map_toArray, List.map_cons, List.map_nil]); first | done | rfl | (simp only [List.length_drop, List.length_take]; rfl)) ?_
         with_reducible refine (zone_solid.calls a1_5 a1_6 a1_7 t186 t187 t188 _ A41.out).mono ?_
         rintro e w48 ⟨rfl, hb⟩
         refine ⟨_, rfl, ?_⟩
         have n0_ := Aside0.mk (blk_below (g := gb180) (o := .cells #[.int .i64 a0_0, .int .i64 a0_1, .bool a0_2, .int .i64 a0_3, .string a0_4] 38 (0, 0)) (by (with_reducible repeat (first | refine blk_drewN ?_ _ | refine blk_drew ?_ | refine blk_alloc ?_ _)); exact BK180.out) hb)
         have n1_ := Aside0.mk (blk_below (g := gb181) (o := .cells #[.bool a1_0, .bool a1_1, .bool a1_2, .int .i64 a1_3, .string a1_4, .bool a1_5, .int .i64 a1_6, .string a1_7] 41 (0, 0)) (by (with_reducible repeat (first | refine blk_drewN ?_ _ | refine blk_drew ?_ | refine blk_alloc ?_ _)); exact BK181.out) hb)
         have n2_ := Aside0.mk (below_step (by with_reducible repeat first | exact HB.out | apply below_alloc | apply pw_below_drewN | apply below_drew1 | refine below_set ?_ GE180.out | refine below_set ?_ GE181.out) hb)
         clear BK180
         clear BK181
         clear HB
         have BK180 := n0_
         have BK181 := n1_
         have HB := n2_
         clear n0_ n1_ n2_
         (try clear hb)
         (try clear hb2)
         (try clear hk)
         (try clear hi)
         refine hK.out _ _ ⟨(blk_cell BK181.out 0).trans rfl, (blk_cell BK181.out 1).trans rfl, (blk_cell BK181.out 2).trans rfl, (blk_cell BK181.out 3).trans rfl, (blk_cell BK181.out 4).trans rfl, (blk_cell BK181.out 5).trans rfl, (blk_cell BK181.out 6).trans rfl, (blk_cell BK181.out 7).trans rfl, (blk_cell BK180.out 0).trans rfl, (blk_cell BK180.out 1).trans rfl, (blk_cell BK180.out 2).trans rfl, (blk_cell BK180.out 3).trans rfl, (blk_cell BK180.out 4).trans rfl⟩ (fun hHeld => ?_)
         clear hK K
         refine norm_ (a' := ?_) ?_ ?_
         rotate_left
         ·show Act.put _ (some 41) _ = _
          simp only [Act.put, List.setIfInBounds_toArray, List.set_cons_zero, List.set_cons_succ, i64_w, i32_w]
          rfl
         refine one_ (i := 11) (N := some 44) #[true, true, true, true, true, true, true, true, true, true, true, true, false, false] rfl rfl (one_of HT_.out (by kernel_rfl)) (by decide) (fun K hK => ?_)
         refine goes_ Try.func45 (by kernel_rfl) rfl #[.agg #[.bool t186, .int .i64 t187, .string t188], .agg #[.bool a0_2, .int .i64 a0_3, .string a0_4]] (by rfl) rfl rfl (by (try simp only [List.map_toArray, List.map_cons, List.map_nil]); first | done | rfl | (simp only [List.length_drop, List.length_take]; rfl)) ?_
         with_reducible refine (kinds_Compare_c.calls t186 t187 t188 a0_2 a0_3 a0_4 t189 _ A42.out).mono ?_
         rintro e w49 ⟨rfl, hb⟩
         refine ⟨_, rfl, ?_⟩
         have n0_ := Aside0.mk (blk_below (g := gb180) (o := .cells #[.int .i64 a0_0, .int .i64 a0_1, .bool a0_2, .int .i64 a0_3, .string a0_4] 38 (0, 0)) (by (with_reducible repeat (first | refine blk_drewN ?_ _ | refine blk_drew ?_ | refine blk_alloc ?_ _)); exact BK180.out) hb)
         have n1_ := Aside0.mk (blk_below (g := gb181) (o := .cells #[.bool a1_0, .bool a1_1, .bool a1_2, .int .i64 a1_3, .string a1_4, .bool a1_5, .int .i64 a1_6, .string a1_7] 41 (0, 0)) (by (with_reducible repeat (first | refine blk_drewN ?_ _ | refine blk_drew ?_ | refine blk_alloc ?_ _)); exact BK181.out) hb)
         have n2_ := Aside0.mk (below_step (by with_reducible repeat first | exact HB.out | apply below_alloc | apply pw_below_drewN | apply below_drew1 | refine below_set ?_ GE180.out | refine below_set ?_ GE181.out) hb)
         clear BK180
         clear BK181
         clear HB
         have BK180 := n0_
         have BK181 := n1_
         have HB := n2_
         clear n0_ n1_ n2_
         (try clear hb)
         (try clear hb2)
         (try clear hk)
         (try clear hi)
         refine hK.out _ _ ⟨(blk_cell BK181.out 0).trans rfl, (blk_cell BK181.out 1).trans rfl, (blk_cell BK181.out 2).trans rfl, (blk_cell BK181.out 3).trans rfl, (blk_cell BK181.out 4).trans rfl, (blk_cell BK181.out 5).trans rfl, (blk_cell BK181.out 6).trans rfl, (blk_cell BK181.out 7).trans rfl, (blk_cell BK180.out 0).trans rfl, (blk_cell BK180.out 1).trans rfl, (blk_cell BK180.out 2).trans rfl, (blk_cell BK180.out 3).trans rfl, (blk_cell BK180.out 4).trans rfl⟩ (fun hHeld => ?_)
         clear hK K
         refine norm_ (a' := ?_) ?_ ?_
         rotate_left
         ·show Act.put _ (some 44) _ = _
          simp only [Act.put, List.setIfInBounds_toArray, List.set_cons_zero, List.set_cons_succ, i64_w, i32_w]
          rfl
         refine pure_ (i := 12) (N := some 5) (v := ?_) (a' := ?_) #[true, true, true, true, true, true, true, true, true, true, true, true, true, false] rfl rfl (any_of HT_.out (by kernel_rfl)) (fun _ _ _ h => h) (Or.inl ⟨by rfl, ?_⟩) ?_ ?_
         rotate_left
         ·intro w'
          go_simp
          with_reducible rfl
         rotate_left
         ·simp only [Act.put, List.setIfInBounds_toArray, List.set_cons_zero, List.set_cons_succ, i64_w, i32_w]
          rfl
         refine pure_ (i := 13) (N := some 6) (v := ?_) (a' := ?_) #[true, true, true, true, true, true, true, true, true, true, true, true, true, true] rfl rfl (any_of HT_.out (by kernel_rfl)) (fun _ _ _ h => h) (Or.inl ⟨by rfl, ?_⟩) ?_ ?_
         rotate_left
         ·intro w'
          go_simp
          with_reducible rfl
         rotate_left
         ·simp only [Act.put, List.setIfInBounds_toArray, List.set_cons_zero, List.set_cons_succ, i64_w, i32_w]
          rfl
         refine done_ (done_of HT_.out (by kernel_rfl)) ?_
         have hnb50 := NB180_181.out
         have hnc50 := NB181_180.out
         obtain ⟨hcz51_0, hcz51_1, hcz51_2, hcz51_3, hcz51_4⟩ := bc5 BK180.out
         obtain ⟨hfz51_0, hfz51_1, hfz51_2, hfz51_3, hfz51_4⟩ := bf5 BK180.out
         try go_wp2
         go_ret
         exact ⟨by first | rfl | (simp [errW_none, errW_some] <;> rfl) | (simp [*, errW_none, errW_some] <;> rfl), by repeat (first | (with_reducible first | exact HB.out | apply below_alloc | apply pw_below_drewN | apply below_drew1 | refine below_set ?_ GE180.out | refine below_set ?_ GE181.out) | exact HB.out)⟩
        ·rw [if_neg c44] at H
         have c44b0 : decide (t185 ≤ 0) = false := decide_eq_false c44
         clear c44
         obtain rfl := Option.some.inj H
         try go_wp2
         have n0_ := Aside0.mk (blk_drew BK180.out)
         have n1_ := Aside0.mk (blk_drew BK181.out)
         have n2_ := Aside0.mk (below_drew1 HB.out)
         clear BK180
         clear BK181
         clear HB
         have BK180 := n0_
         have BK181 := n1_
         have HB := n2_
         clear n0_ n1_ n2_
         refine start_ (n := 14) (S := fun w' => w'.cell? ⟨gb181, 0, none⟩ = some (.bool a1_0) ∧ w'.cell? ⟨gb181, 1, none⟩ = some (.bool a1_1) ∧ w'.cell? ⟨gb181, 2, none⟩ = some (.bool a1_2) ∧ w'.cell? ⟨gb181, 3, none⟩ = some (.int .i64 a1_3) ∧ w'.cell? ⟨gb181, 4, none⟩ = some (.string a1_4) ∧ w'.cell? ⟨gb181, 5, none⟩ = some (.bool a1_5) ∧ w'.cell? ⟨gb181, 6, none⟩ = some (.int .i64 a1_6) ∧ w'.cell? ⟨gb181, 7, none⟩ = some (.string a1_7) ∧ w'.cell? ⟨gb180, 0, none⟩ = some (.int .i64 a0_0) ∧ w'.cell? ⟨gb180, 1, none⟩ = some (.int .i64 a0_1) ∧ w'.cell? ⟨gb180, 2, none⟩ = some (.bool a0_2) ∧ w'.cell? ⟨gb180, 3, none⟩ = some (.int .i64 a0_3) ∧ w'.cell? ⟨gb180, 4, none⟩ = some (.string a0_4)) (ds := []) #[false, false, false, false, false, false, false, false, false, false, false, false, false, false] (by kernel_rfl) rfl rfl ⟨(blk_cell BK181.out 0).trans rfl, (blk_cell BK181.out 1).trans rfl, (blk_cell BK181.out 2).trans rfl, (blk_cell BK181.out 3).trans rfl, (blk_cell BK181.out 4).trans rfl, (blk_cell BK181.out 5).trans rfl, (blk_cell BK181.out 6).trans rfl, (blk_cell BK181.out 7).trans rfl, (blk_cell BK180.out 0).trans rfl, (blk_cell BK180.out 1).trans rfl, (blk_cell BK180.out 2).trans rfl, (blk_cell BK180.out 3).trans rfl, (blk_cell BK180.out 4).trans rfl⟩ (fun hHeld => ?_); refine with_tabW zone_May.tab10 zone_May.bits10 (fun HT_ HW_ => ?_)
         generalize wc.drew = w52 at BK180 BK181 HB hHeld ⊢
         refine pure_ (i := 0) (N := some 33) (v := ?_) (a' := ?_) #[true, false, false, false, false, false, false, false, false, false, false, false, false, false] rfl rfl (any_of HT_.out (by kernel_rfl)) (fun _ _ _ h => h) (Or.inl ⟨by rfl, ?_⟩) ?_ ?_
         rotate_left
         ·intro w'
          go_simp
          with_reducible rfl
         rotate_left
         ·simp only [Act.put, List.setIfInBounds_toArray, List.set_cons_zero, List.set_cons_succ, i64_w, i32_w]
          rfl
         refine pure_ (i := 3) (N := some 36) (v := ?_) (a' := ?_) #[true, false, false, true, false, false, false, false, false, false, false, false, false, false] rfl rfl (any_of HT_.out (by kernel_rfl)) (fun _ _ _ h => h) (Or.inl ⟨by rfl, ?_⟩) ?_ ?_
         rotate_left
         ·intro w'
          go_simp
          with_reducible rfl
         rotate_left
         ·simp only [Act.put, List.setIfInBounds_toArray, List.set_cons_zero, List.set_cons_succ, i64_w, i32_w]
          rfl
         refine pure_ (i := 6) (N := some 39) (v := ?_) (a' := ?_) #[true, false, false, true, false, false, true, false, false, false, false, false, false, false] rfl rfl (any_of HT_.out (by kernel_rfl)) (fun _ _ _ h => h) (Or.inl ⟨by rfl, ?_⟩) ?_ ?_
         rotate_left
         ·intro w'
          go_simp
          with_reducible rfl
         rotate_left
         ·simp only [Act.put, List.setIfInBounds_toArray, List.set_cons_zero, List.set_cons_succ, i64_w, i32_w]
          rfl
         refine pure_ (i := 9) (N := some 42) (v := ?_) (a' := ?_) #[true, false, false, true, false, false, true, false, false, true, false, false, false, false] rfl rfl (any_of HT_.out (by kernel_rfl)) (fun _ _ _ h => h) (Or.inl ⟨by rfl, ?_⟩) ?_ ?_
         rotate_left
         ·intro w'
          go_simp
          with_reducible rfl
         rotate_left
         ·simp only [Act.put, List.setIfInBounds_toArray, List.set_cons_zero, List.set_cons_succ, i64_w, i32_w]
          rfl
         refine take_ (i := 1) (N := some 34) (v := ?_) (a' := ?_) #[true, true, false, true, false, false, true, false, false, true, false, false, false, false] rfl rfl (take_ofW HT_.out HW_.out (by kernel_rfl)) (fun _ _ _ h => h) (Or.inl ⟨by rfl, ?_⟩) hHeld ?_ ?_
         rotate_left
         ·rintro w' ⟨s0, s1, s2, s3, s4, s5, s6, s7, s8, s9, s10, s11, s12⟩
          go_simp
          with_reducible rfl
         rotate_left
         ·simp only [Act.put, List.setIfInBounds_toArray, List.set_cons_zero, List.set_cons_succ, i64_w, i32_w]
          rfl
         refine take_ (i := 4) (N := some 37) (v := ?_) (a' := ?_) #[true, true, false, true, true, false, true, false, false, true, false, false, false, false] rfl rfl (take_ofW HT_.out HW_.out (by kernel_rfl)) (fun _ _ _ h => h) (Or.inl ⟨by rfl, ?_⟩) hHeld ?_ ?_
         rotate_left
         ·rintro w' ⟨s0, s1, s2, s3, s4, s5, s6, s7, s8, s9, s10, s11, s12⟩
          go_simp
          with_reducible rfl
         rotate_left
         ·simp only [Act.put, List.setIfInBounds_toArray, List.set_cons_zero, List.set_cons_succ, i64_w, i32_w]
          rfl
         refine take_ (i := 7) (N := some 40) (v := ?_) (a' := ?_) #[true, true, false, true, true, false, true, true, false, true, false, false, false, false] rfl rfl (take_ofW HT_.out HW_.out (by kernel_rfl)) (fun _ _ _ h => h) (Or.inl ⟨by rfl, ?_⟩) hHeld ?_ ?_
         rotate_left
         ·rintro w' ⟨s0, s1, s2, s3, s4, s5, s6, s7, s8, s9, s10, s11, s12⟩
          go_simp
          with_reducible rfl
         rotate_left
         ·simp only [Act.put, List.setIfInBounds_toArray, List.set_cons_zero, List.set_cons_succ, i64_w, i32_w]
          rfl
         refine take_ (i := 10) (N := some 43) (v := ?_) (a' := ?_) #[true, true, false, true, true, false, true, true, false, true, true, false, false, false] rfl rfl (take_ofW HT_.out HW_.out (by kernel_rfl)) (fun _ _ _ h => h) (Or.inl ⟨by rfl, ?_⟩) hHeld ?_ ?_
         rotate_left
         ·rintro w' ⟨s0, s1, s2, s3, s4, s5, s6, s7, s8, s9, s10, s11, s12⟩
          go_simp
          with_reducible rfl
         rotate_left
         ·simp only [Act.put, List.setIfInBounds_toArray, List.set_cons_zero, List.set_cons_succ, i64_w, i32_w]
          rfl
         refine one_ (i := 2) (N := some 35) #[true, true, true, true, true, false, true, true, false, true, true, false, false, false] rfl rfl (one_of HT_.out (by kernel_rfl)) (by decide) (fun K hK => ?_)
         refine goes_ Try.func48 (by kernel_rfl) rfl #[.agg #[.bool a1_2, .int .i64 a1_3, .string a1_4]] (by rfl) rfl rfl (by (try simp only [List.map_toArray, List.map_cons, List.map_nil]); first | done | rfl | (simp only [List.length_drop, List.length_take]; rfl)) ?_
         with_reducible refine (zone_solid.calls a1_2 a1_3 a1_4 t182 t183 t184 _ A39.out).mono ?_
         rintro e w53 ⟨rfl, hb⟩
         refine ⟨_, rfl, ?_⟩
         have n0_ := Aside0.mk (blk_below (g := gb180) (o := .cells #[.int .i64 a0_0, .int .i64 a0_1, .bool a0_2, .int .i64 a0_3, .string a0_4] 38 (0, 0)) (by (with_reducible repeat (first | refine blk_drewN ?_ _ | refine blk_drew ?_ | refine blk_alloc ?_ _)); exact BK180.out) hb)
         have n1_ := Aside0.mk (blk_below (g := gb181) (o := .cells #[.bool a1_0, .bool a1_1, .bool a1_2, .int .i64 a1_3, .string a1_4, .bool a1_5, .int .i64 a1_6, .string a1_7] 41 (0, 0)) (by (with_reducible repeat (first | refine blk_drewN ?_ _ | refine blk_drew ?_ | refine blk_alloc ?_ _)); exact BK181.out) hb)
         have n2_ := Aside0.mk (below_step (by with_reducible repeat first | exact HB.out | apply below_alloc | apply pw_below_drewN | apply below_drew1 | refine below_set ?_ GE180.out | refine below_set ?_ GE181.out) hb)
         clear BK180
         clear BK181
         clear HB
         have BK180 := n0_
         have BK181 := n1_
         have HB := n2_
         clear n0_ n1_ n2_
         (try clear hb)
         (try clear hb2)
         (try clear hk)
         (try clear hi)
         refine hK.out _ _ ⟨(blk_cell BK181.out 0).trans rfl, (blk_cell BK181.out 1).trans rfl, (blk_cell BK181.out 2).trans rfl, (blk_cell BK181.out 3).trans rfl, (blk_cell BK181.out 4).trans rfl, (blk_cell BK181.out 5).trans rfl, (blk_cell BK181.out 6).trans rfl, (blk_cell BK181.out 7).trans rfl, (blk_cell BK180.out 0).trans rfl, (blk_cell BK180.out 1).trans rfl, (blk_cell BK180.out 2).trans rfl, (blk_cell BK180.out 3).trans rfl, (blk_cell BK180.out 4).trans rfl⟩ (fun hHeld => ?_)
         clear hK K
         refine norm_ (a' := ?_) ?_ ?_
         rotate_left
         ·show Act.put _ (some 35) _ = _
          simp only [Act.put, List.setIfInBounds_toArray, List.set_cons_zero, List.set_cons_succ, i64_w, i32_w]
          rfl
         refine one_ (i := 5) (N := some 38) #[true, true, true, true, true, true, true, true, false, true, true, false, false, false] rfl rfl (one_of HT_.out (by kernel_rfl)) (by decide) (fun K hK => ?_)
         refine goes_ Try.func45 (by kernel_rfl) rfl #[.agg #[.bool t182, .int .i64 t183, .string t184], .agg #[.bool a0_2, .int .i64 a0_3, .string a0_4]] (by rfl) rfl rfl (by (try simp only [List.map_toArray, List.map_cons, List.map_nil]); first | done | rfl | (simp only [List.length_drop, List.length_take]; rfl)) ?_
         with_reducible refine (kinds_Compare_c.calls t182 t183 t184 a0_2 a0_3 a0_4 t185 _ A40.out).mono ?_
         rintro e w54 ⟨rfl, hb⟩
         refine ⟨_, rfl, ?_⟩
         have n0_ := Aside0.mk (blk_below (g := gb180) (o := .cells #[.int .i64 a0_0, .int .i64 a0_1, .bool a0_2, .int .i64 a0_3, .string a0_4] 38 (0, 0)) (by (with_reducible repeat (first | refine blk_drewN ?_ _ | refine blk_drew ?_ | refine blk_alloc ?_ _)); exact BK180.out) hb)
         have n1_ := Aside0.mk (blk_below (g := gb181) (o := .cells #[.bool a1_0, .bool a1_1, .bool a1_2, .int .i64 a1_3, .string a1_4, .bool a1_5, .int .i64 a1_6, .string a1_7] 41 (0, 0)) (by (with_reducible repeat (first | refine blk_drewN ?_ _ | refine blk_drew ?_ | refine blk_alloc ?_ _)); exact BK181.out) hb)
         have n2_ := Aside0.mk (below_step (by with_reducible repeat first | exact HB.out | apply below_alloc | apply pw_below_drewN | apply below_drew1 | refine below_set ?_ GE180.out | refine below_set ?_ GE181.out) hb)
         clear BK180
         clear BK181
         clear HB
         have BK180 := n0_
         have BK181 := n1_
         have HB := n2_
         clear n0_ n1_ n2_
         (try clear hb)
         (try clear hb2)
         (try clear hk)
         (try clear hi)
         refine hK.out _ _ ⟨(blk_cell BK181.out 0).trans rfl, (blk_cell BK181.out 1).trans rfl, (blk_cell BK181.out 2).trans rfl, (blk_cell BK181.out 3).trans rfl, (blk_cell BK181.out 4).trans rfl, (blk_cell BK181.out 5).trans rfl, (blk_cell BK181.out 6).trans rfl, (blk_cell BK181.out 7).trans rfl, (blk_cell BK180.out 0).trans rfl, (blk_cell BK180.out 1).trans rfl, (blk_cell BK180.out 2).trans rfl, (blk_cell BK180.out 3).trans rfl, (blk_cell BK180.out 4).trans rfl⟩ (fun hHeld => ?_)
         clear hK K
         refine norm_ (a' := ?_) ?_ ?_
         rotate_left
         ·show Act.put _ (some 38) _ = _
          simp only [Act.put, List.setIfInBounds_toArray, List.set_cons_zero, List.set_cons_succ, i64_w, i32_w]
          rfl
         refine one_ (i := 8) (N := some 41) #[true, true, true, true, true, true, true, true, true, true, true, false, false, false] rfl rfl (one_of HT_.out (by kernel_rfl)) (by decide) (fun K hK => ?_)
         refine goes_ Try.func48 (by kernel_rfl) rfl #[.agg #[.bool a1_5, .int .i64 a1_6, .string a1_7]] (by rfl) rfl rfl (by (try simp only [List.map_toArray, List.map_cons, List.map_nil]); first | done | rfl | (simp only [List.length_drop, List.length_take]; rfl)) ?_
         with_reducible refine (zone_solid.calls a1_5 a1_6 a1_7 t186 t187 t188 _ A41.out).mono ?_
         rintro e w55 ⟨rfl, hb⟩
         refine ⟨_, rfl, ?_⟩
         have n0_ := Aside0.mk (blk_below (g := gb180) (o := .cells #[.int .i64 a0_0, .int .i64 a0_1, .bool a0_2, .int .i64 a0_3, .string a0_4] 38 (0, 0)) (by (with_reducible repeat (first | refine blk_drewN ?_ _ | refine blk_drew ?_ | refine blk_alloc ?_ _)); exact BK180.out) hb)
         have n1_ := Aside0.mk (blk_below (g := gb181) (o := .cells #[.bool a1_0, .bool a1_1, .bool a1_2, .int .i64 a1_3, .string a1_4, .bool a1_5, .int .i64 a1_6, .string a1_7] 41 (0, 0)) (by (with_reducible repeat (first | refine blk_drewN ?_ _ | refine blk_drew ?_ | refine blk_alloc ?_ _)); exact BK181.out) hb)
         have n2_ := Aside0.mk (below_step (by with_reducible repeat first | exact HB.out | apply below_alloc | apply pw_below_drewN | apply below_drew1 | refine below_set ?_ GE180.out | refine below_set ?_ GE181.out) hb)
         clear BK180
         clear BK181
         clear HB
         have BK180 := n0_
         have BK181 := n1_
         have HB := n2_
         clear n0_ n1_ n2_
         (try clear hb)
         (try clear hb2)
         (try clear hk)
         (try clear hi)
         refine hK.out _ _ ⟨(blk_cell BK181.out 0).trans rfl, (blk_cell BK181.out 1).trans rfl, (blk_cell BK181.out 2).trans rfl, (blk_cell BK181.out 3).trans rfl, (blk_cell BK181.out 4).trans rfl, (blk_cell BK181.out 5).trans rfl, (blk_cell BK181.out 6).trans rfl, (blk_cell BK181.out 7).trans rfl, (blk_cell BK180.out 0).trans rfl, (blk_cell BK180.out 1).trans rfl, (blk_cell BK180.out 2).trans rfl, (blk_cell BK180.out 3).trans rfl, (blk_cell BK180.out 4).trans rfl⟩ (fun hHeld => ?_)
         clear hK K
         refine norm_ (a' := ?_) ?_ ?_
         rotate_left
         ·show Act.put _ (some 41) _ = _
          simp only [Act.put, List.setIfInBounds_toArray, List.set_cons_zero, List.set_cons_succ, i64_w, i32_w]
          rfl
         refine one_ (i := 11) (N := some 44) #[true, true, true, true, true, true, true, true, true, true, true, true, false, false] rfl rfl (one_of HT_.out (by kernel_rfl)) (by decide) (fun K hK => ?_)
         refine goes_ Try.func45 (by kernel_rfl) rfl #[.agg #[.bool t186, .int .i64 t187, .string t188], .agg #[.bool a0_2, .int .i64 a0_3, .string a0_4]] (by rfl) rfl rfl (by (try simp only [List.map_toArray, List.map_cons, List.map_nil]); first | done | rfl | (simp only [List.length_drop, List.length_take]; rfl)) ?_
         with_reducible refine (kinds_Compare_c.calls t186 t187 t188 a0_2 a0_3 a0_4 t189 _ A42.out).mono ?_
         rintro e w56 ⟨rfl, hb⟩
         refine ⟨_, rfl, ?_⟩
         have n0_ := Aside0.mk (blk_below (g := gb180) (o := .cells #[.int .i64 a0_0, .int .i64 a0_1, .bool a0_2, .int .i64 a0_3, .string a0_4] 38 (0, 0)) (by (with_reducible repeat (first | refine blk_drewN ?_ _ | refine blk_drew ?_ | refine blk_alloc ?_ _)); exact BK180.out) hb)
         have n1_ := Aside0.mk (blk_below (g := gb181) (o := .cells #[.bool a1_0, .bool a1_1, .bool a1_2, .int .i64 a1_3, .string a1_4, .bool a1_5, .int .i64 a1_6, .string a1_7] 41 (0, 0)) (by (with_reducible repeat (first | refine blk_drewN ?_ _ | refine blk_drew ?_ | refine blk_alloc ?_ _)); exact BK181.out) hb)
         have n2_ := Aside0.mk (below_step (by with_reducible repeat first | exact HB.out | apply below_alloc | apply pw_below_drewN | apply below_drew1 | refine below_set ?_ GE180.out | refine below_set ?_ GE181.out) hb)
         clear BK180
         clear BK181
         clear HB
         have BK180 := n0_
         have BK181 := n1_
         have HB := n2_
         clear n0_ n1_ n2_
         (try clear hb)
         (try clear hb2)
         (try clear hk)
         (try clear hi)
         refine hK.out _ _ ⟨(blk_cell BK181.out 0).trans rfl, (blk_cell BK181.out 1).trans rfl, (blk_cell BK181.out 2).trans rfl, (blk_cell BK181.out 3).trans rfl, (blk_cell BK181.out 4).trans rfl, (blk_cell BK181.out 5).trans rfl, (blk_cell BK181.out 6).trans rfl, (blk_cell BK181.out 7).trans rfl, (blk_cell BK180.out 0).trans rfl, (blk_cell BK180.out 1).trans rfl, (blk_cell BK180.out 2).trans rfl, (blk_cell BK180.out 3).trans rfl, (blk_cell BK180.out 4).trans rfl⟩ (fun hHeld => ?_)
         clear hK K
         refine norm_ (a' := ?_) ?_ ?_
         rotate_left
         ·show Act.put _ (some 44) _ = _
          simp only [Act.put, List.setIfInBounds_toArray, List.set_cons_zero, List.set_cons_succ, i64_w, i32_w]
          rfl
         refine pure_ (i := 12) (N := some 5) (v := ?_) (a' := ?_) #[true, true, true, true, true, true, true, true, true, true, true, true, true, false] rfl rfl (any_of HT_.out (by kernel_rfl)) (fun _ _ _ h => h) (Or.inl ⟨by rfl, ?_⟩) ?_ ?_
         rotate_left
         ·intro w'
          go_simp
          with_reducible rfl
         rotate_left
         ·simp only [Act.put, List.setIfInBounds_toArray, List.set_cons_zero, List.set_cons_succ, i64_w, i32_w]
          rfl
         refine pure_ (i := 13) (N := some 6) (v := ?_) (a' := ?_) #[true, true, true, true, true, true, true, true, true, true, true, true, true, true] rfl rfl (any_of HT_.out (by kernel_rfl)) (fun _ _ _ h => h) (Or.inl ⟨by rfl, ?_⟩) ?_ ?_
         rotate_left
         ·intro w'
          go_simp
          with_reducible rfl
         rotate_left
         ·simp only [Act.put, List.setIfInBounds_toArray, List.set_cons_zero, List.set_cons_succ, i64_w, i32_w]
          rfl
         refine done_ (done_of HT_.out (by kernel_rfl)) ?_
         have hnb57 := NB180_181.out
         have hnc57 := NB181_180.out
         obtain ⟨hcz58_0, hcz58_1, hcz58_2, hcz58_3, hcz58_4⟩ := bc5 BK180.out
         obtain ⟨hfz58_0, hfz58_1, hfz58_2, hfz58_3, hfz58_4⟩ := bf5 BK180.out
         try go_wp2
         go_ret
         exact ⟨by first | rfl | (simp [errW_none, errW_some] <;> rfl) | (simp [*, errW_none, errW_some] <;> rfl), by repeat (first | (with_reducible first | exact HB.out | apply below_alloc | apply pw_below_drewN | apply below_drew1 | refine below_set ?_ GE180.out | refine below_set ?_ GE181.out) | exact HB.out)⟩
       ·rw [if_neg c43] at H
        have c43b0 : (a0_0 == 1) = false := beq_eq_false_iff_ne.mpr c43
        have c43b1 : (a0_0 != 1) = true := bne_iff_ne.mpr c43
        by_cases c59 : a0_0 = 2
        ·rw [if_pos c59] at H
         have c59b0 : (a0_0 == 2) = true := beq_iff_eq.mpr c59
         have c59b1 : (a0_0 != 2) = false := bne_eq_false_iff_eq.mpr c59
         clear c59
         obtain rfl := Option.some.inj H
         try go_wp2
         have n0_ := Aside0.mk (blk_drew BK180.out)
         have n1_ := Aside0.mk (blk_drew BK181.out)
         have n2_ := Aside0.mk (below_drew1 HB.out)
         clear BK180
         clear BK181
         clear HB
         have BK180 := n0_
         have BK181 := n1_
         have HB := n2_
         clear n0_ n1_ n2_
         refine start_ (n := 14) (S := fun w' => w'.cell? ⟨gb181, 0, none⟩ = some (.bool a1_0) ∧ w'.cell? ⟨gb181, 1, none⟩ = some (.bool a1_1) ∧ w'.cell? ⟨gb181, 2, none⟩ = some (.bool a1_2) ∧ w'.cell? ⟨gb181, 3, none⟩ = some (.int .i64 a1_3) ∧ w'.cell? ⟨gb181, 4, none⟩ = some (.string a1_4) ∧ w'.cell? ⟨gb181, 5, none⟩ = some (.bool a1_5) ∧ w'.cell? ⟨gb181, 6, none⟩ = some (.int .i64 a1_6) ∧ w'.cell? ⟨gb181, 7, none⟩ = some (.string a1_7) ∧ w'.cell? ⟨gb180, 0, none⟩ = some (.int .i64 a0_0) ∧ w'.cell? ⟨gb180, 1, none⟩ = some (.int .i64 a0_1) ∧ w'.cell? ⟨gb180, 2, none⟩ = some (.bool a0_2) ∧ w'.cell? ⟨gb180, 3, none⟩ = some (.int .i64 a0_3) ∧ w'.cell? ⟨gb180, 4, none⟩ = some (.string a0_4)) (ds := []) #[false, false, false, false, false, false, false, false, false, false, false, false, false, false] (by kernel_rfl) rfl rfl ⟨(blk_cell BK181.out 0).trans rfl, (blk_cell BK181.out 1).trans rfl, (blk_cell BK181.out 2).trans rfl, (blk_cell BK181.out 3).trans rfl, (blk_cell BK181.out 4).trans rfl, (blk_cell BK181.out 5).trans rfl, (blk_cell BK181.out 6).trans rfl, (blk_cell BK181.out 7).trans rfl, (blk_cell BK180.out 0).trans rfl, (blk_cell BK180.out 1).trans rfl, (blk_cell BK180.out 2).trans rfl, (blk_cell BK180.out 3).trans rfl, (blk_cell BK180.out 4).trans rfl⟩ (fun hHeld => ?_); refine with_tabW zone_May.tab10 zone_May.bits10 (fun HT_ HW_ => ?_)
         generalize wc.drew = w60 at BK180 BK181 HB hHeld ⊢
         refine pure_ (i := 0) (N := some 33) (v := ?_) (a' := ?_) #[true, false, false, false, false, false, false, false, false, false, false, false, false, false] rfl rfl (any_of HT_.out (by kernel_rfl)) (fun _ _ _ h => h) (Or.inl ⟨by rfl, ?_⟩) ?_ ?_
         rotate_left
         ·intro w'
          go_simp
          with_reducible rfl
         rotate_left
         ·simp only [Act.put, List.setIfInBounds_toArray, List.set_cons_zero, List.set_cons_succ, i64_w, i32_w]
          rfl
         refine pure_ (i := 3) (N := some 36) (v := ?_) (a' := ?_) #[true, false, false, true, false, false, false, false, false, false, false, false, false, false] rfl rfl (any_of HT_.out (by kernel_rfl)) (fun _ _ _ h => h) (Or.inl ⟨by rfl, ?_⟩) ?_ ?_
         rotate_left
         ·intro w'
          go_simp
          with_reducible rfl
         rotate_left
         ·simp only [Act.put, List.setIfInBounds_toArray, List.set_cons_zero, List.set_cons_succ, i64_w, i32_w]
          rfl
         refine pure_ (i := 6) (N := some 39) (v := ?_) (a' := ?_) #[true, false, false, true, false, false, true, false, false, false, false, false, false, false] rfl rfl (any_of HT_.out (by kernel_rfl)) (fun _ _ _ h => h) (Or.inl ⟨by rfl, ?_⟩) ?_ ?_
         rotate_left
         ·intro w'
          go_simp
          with_reducible rfl
         rotate_left
         ·simp only [Act.put, List.setIfInBounds_toArray, List.set_cons_zero, List.set_cons_succ, i64_w, i32_w]
          rfl
         refine pure_ (i := 9) (N := some 42) (v := ?_) (a' := ?_) #[true, false, false, true, false, false, true, false, false, true, false, false, false, false] rfl rfl (any_of HT_.out (by kernel_rfl)) (fun _ _ _ h => h) (Or.inl ⟨by rfl, ?_⟩) ?_ ?_
         rotate_left
         ·intro w'
          go_simp
          with_reducible rfl
         rotate_left
         ·simp only [Act.put, List.setIfInBounds_toArray, List.set_cons_zero, List.set_cons_succ, i64_w, i32_w]
          rfl
         refine take_ (i := 1) (N := some 34) (v := ?_) (a' := ?_) #[true, true, false, true, false, false, true, false, false, true, false, false, false, false] rfl rfl (take_ofW HT_.out HW_.out (by kernel_rfl)) (fun _ _ _ h => h) (Or.inl ⟨by rfl, ?_⟩) hHeld ?_ ?_
         rotate_left
         ·rintro w' ⟨s0, s1, s2, s3, s4, s5, s6, s7, s8, s9, s10, s11, s12⟩
          go_simp
          with_reducible rfl
         rotate_left
         ·simp only [Act.put, List.setIfInBounds_toArray, List.set_cons_zero, List.set_cons_succ, i64_w, i32_w]
          rfl
         refine take_ (i := 4) (N := some 37) (v := ?_) (a' := ?_) #[true, true, false, true, true, false, true, false, false, true, false, false, false, false] rfl rfl (take_ofW HT_.out HW_.out (by kernel_rfl)) (fun _ _ _ h => h) (Or.inl ⟨by rfl, ?_⟩) hHeld ?_ ?_
         rotate_left
         ·rintro w' ⟨s0, s1, s2, s3, s4, s5, s6, s7, s8, s9, s10, s11, s12⟩
          go_simp
          with_reducible rfl
         rotate_left
         ·simp only [Act.put, List.setIfInBounds_toArray, List.set_cons_zero, List.set_cons_succ, i64_w, i32_w]
          rfl
         refine take_ (i := 7) (N := some 40) (v := ?_) (a' := ?_) #[true, true, false, true, true, false, true, true, false, true, false, false, false, false] rfl rfl (take_ofW HT_.out HW_.out (by kernel_rfl)) (fun _ _ _ h => h) (Or.inl ⟨by rfl, ?_⟩) hHeld ?_ ?_
         rotate_left
         ·rintro w' ⟨s0, s1, s2, s3, s4, s5, s6, s7, s8, s9, s10, s11, s12⟩
          go_simp
          with_reducible rfl
         rotate_left
         ·simp only [Act.put, List.setIfInBounds_toArray, List.set_cons_zero, List.set_cons_succ, i64_w, i32_w]
          rfl
         refine take_ (i := 10) (N := some 43) (v := ?_) (a' := ?_) #[true, true, false, true, true, false, true, true, false, true, true, false, false, false] rfl rfl (take_ofW HT_.out HW_.out (by kernel_rfl)) (fun _ _ _ h => h) (Or.inl ⟨by rfl, ?_⟩) hHeld ?_ ?_
         rotate_left
         ·rintro w' ⟨s0, s1, s2, s3, s4, s5, s6, s7, s8, s9, s10, s11, s12⟩
          go_simp
          with_reducible rfl
         rotate_left
         ·simp only [Act.put, List.setIfInBounds_toArray, List.set_cons_zero, List.set_cons_succ, i64_w, i32_w]
          rfl
         refine one_ (i := 2) (N := some 35) #[true, true, true, true, true, false, true, true, false, true, true, false, false, false] rfl rfl (one_of HT_.out (by kernel_rfl)) (by decide) (fun K hK => ?_)
         refine goes_ Try.func48 (by kernel_rfl) rfl #[.agg #[.bool a1_2, .int .i64 a1_3, .string a1_4]] (by rfl) rfl rfl (by (try simp only [List.map_toArray, List.map_cons, List.map_nil]); first | done | rfl | (simp only [List.length_drop, List.length_take]; rfl)) ?_
         with_reducible refine (zone_solid.calls a1_2 a1_3 a1_4 t182 t183 t184 _ A39.out).mono ?_
         rintro e w61 ⟨rfl, hb⟩
         refine ⟨_, rfl, ?_⟩
         have n0_ := Aside0.mk (blk_below (g := gb180) (o := .cells #[.int .i64 a0_0, .int .i64 a0_1, .bool a0_2, .int .i64 a0_3, .string a0_4] 38 (0, 0)) (by (with_reducible repeat (first | refine blk_drewN ?_ _ | refine blk_drew ?_ | refine blk_alloc ?_ _)); exact BK180.out) hb)
         have n1_ := Aside0.mk (blk_below (g := gb181) (o := .cells #[.bool a1_0, .bool a1_1, .bool a1_2, .int .i64 a1_3, .string a1_4, .bool a1_5, .int .i64 a1_6, .string a1_7] 41 (0, 0)) (by (with_reducible repeat (first | refine blk_drewN ?_ _ | refine blk_drew ?_ | refine blk_alloc ?_ _)); exact BK181.out) hb)
         have n2_ := Aside0.mk (below_step (by with_reducible repeat first | exact HB.out | apply below_alloc | apply pw_below_drewN | apply below_drew1 | refine below_set ?_ GE180.out | refine below_set ?_ GE181.out) hb)
         clear BK180
         clear BK181
         clear HB
         have BK180 := n0_
         have BK181 := n1_
         have HB := n2_
         clear n0_ n1_ n2_
         (try clear hb)
         (try clear hb2)
         (try clear hk)
         (try clear hi)
         refine hK.out _ _ ⟨(blk_cell BK181.out 0).trans rfl, (blk_cell BK181.out 1).trans rfl, (blk_cell BK181.out 2).trans rfl, (blk_cell BK181.out 3).trans rfl, (blk_cell BK181.out 4).trans rfl, (blk_cell BK181.out 5).trans rfl, (blk_cell BK181.out 6).trans rfl, (blk_cell BK181.out 7).trans rfl, (blk_cell BK180.out 0).trans rfl, (blk_cell BK180.out 1).trans rfl, (blk_cell BK180.out 2).trans rfl, (blk_cell BK180.out 3).trans rfl, (blk_cell BK180.out 4).trans rfl⟩ (fun hHeld => ?_)
         clear hK K
         refine norm_ (a' := ?_) ?_ ?_
         rotate_left
         ·show Act.put _ (some 35) _ = _
          simp only [Act.put, List.setIfInBounds_toArray, List.set_cons_zero, List.set_cons_succ, i64_w, i32_w]
          rfl
         refine one_ (i := 5) (N := some 38) #[true, true, true, true, true, true, true, true, false, true, true, false, false, false] rfl rfl (one_of HT_.out (by kernel_rfl)) (by decide) (fun K hK => ?_)
         refine goes_ Try.func45 (by kernel_rfl) rfl #[.agg #[.bool t182, .int .i64 t183, .string t184], .agg #[.bool a0_2, .int .i64 a0_3, .string a0_4]] (by rfl) rfl rfl (by (try simp only [List.map_toArray, List.map_cons, List.map_nil]); first | done | rfl | (simp only [List.length_drop, List.length_take]; rfl)) ?_
         with_reducible refine (kinds_Compare_c.calls t182 t183 t184 a0_2 a0_3 a0_4 t185 _ A40.out).mono ?_
         rintro e w62 ⟨rfl, hb⟩
         refine ⟨_, rfl, ?_⟩
         have n0_ := Aside0.mk (blk_below (g := gb180) (o := .cells #[.int .i64 a0_0, .int .i64 a0_1, .bool a0_2, .int .i64 a0_3, .string a0_4] 38 (0, 0)) (by (with_reducible repeat (first | refine blk_drewN ?_ _ | refine blk_drew ?_ | refine blk_alloc ?_ _)); exact BK180.out) hb)
         have n1_ := Aside0.mk (blk_below (g := gb181) (o := .cells #[.bool a1_0, .bool a1_1, .bool a1_2, .int .i64 a1_3, .string a1_4, .bool a1_5, .int .i64 a1_6, .string a1_7] 41 (0, 0)) (by (with_reducible repeat (first | refine blk_drewN ?_ _ | refine blk_drew ?_ | refine blk_alloc ?_ _)); exact BK181.out) hb)
         have n2_ := Aside0.mk (below_step (by with_reducible repeat first | exact HB.out | apply below_alloc | apply pw_below_drewN | apply below_drew1 | refine below_set ?_ GE180.out | refine below_set ?_ GE181.out) hb)
         clear BK180
         clear BK181
         clear HB
         have BK180 := n0_
         have BK181 := n1_
         have HB := n2_
         clear n0_ n1_ n2_
         (try clear hb)
         (try clear hb2)
         (try clear hk)
         (try clear hi)
         refine hK.out _ _ ⟨(blk_cell BK181.out 0).trans rfl, (blk_cell BK181.out 1).trans rfl, (blk_cell BK181.out 2).trans rfl, (blk_cell BK181.out 3).trans rfl, (blk_cell BK181.out 4).trans rfl, (blk_cell BK181.out 5).trans rfl, (blk_cell BK181.out 6).trans rfl, (blk_cell BK181.out 7).trans rfl, (blk_cell BK180.out 0).trans rfl, (blk_cell BK180.out 1).trans rfl, (blk_cell BK180.out 2).trans rfl, (blk_cell BK180.out 3).trans rfl, (blk_cell BK180.out 4).trans rfl⟩ (fun hHeld => ?_)
         clear hK K
         refine norm_ (a' := ?_) ?_ ?_
         rotate_left
         ·show Act.put _ (some 38) _ = _
          simp only [Act.put, List.setIfInBounds_toArray, List.set_cons_zero, List.set_cons_succ, i64_w, i32_w]
          rfl
         refine one_ (i := 8) (N := some 41) #[true, true, true, true, true, true, true, true, true, true, true, false, false, false] rfl rfl (one_of HT_.out (by kernel_rfl)) (by decide) (fun K hK => ?_)
         refine goes_ Try.func48 (by kernel_rfl) rfl #[.agg #[.bool a1_5, .int .i64 a1_6, .string a1_7]] (by rfl) rfl rfl (by (try simp only [List.map_toArray, List.map_cons, List.map_nil]); first | done | rfl | (simp only [List.length_drop, List.length_take]; rfl)) ?_
         with_reducible refine (zone_solid.calls a1_5 a1_6 a1_7 t186 t187 t188 _ A41.out).mono ?_
         rintro e w63 ⟨rfl, hb⟩
         refine ⟨_, rfl, ?_⟩
         have n0_ := Aside0.mk (blk_below (g := gb180) (o := .cells #[.int .i64 a0_0, .int .i64 a0_1, .bool a0_2, .int .i64 a0_3, .string a0_4] 38 (0, 0)) (by (with_reducible repeat (first | refine blk_drewN ?_ _ | refine blk_drew ?_ | refine blk_alloc ?_ _)); exact BK180.out) hb)
         have n1_ := Aside0.mk (blk_below (g := gb181) (o := .cells #[.bool a1_0, .bool a1_1, .bool a1_2, .int .i64 a1_3, .string a1_4, .bool a1_5, .int .i64 a1_6, .string a1_7] 41 (0, 0)) (by (with_reducible repeat (first | refine blk_drewN ?_ _ | refine blk_drew ?_ | refine blk_alloc ?_ _)); exact BK181.out) hb)
         have n2_ := Aside0.mk (below_step (by with_reducible repeat first | exact HB.out | apply below_alloc | apply pw_below_drewN | apply below_drew1 | refine below_set ?_ GE180.out | refine below_set ?_ GE181.out) hb)
         clear BK180
         clear BK181
         clear HB
         have BK180 := n0_
         have BK181 := n1_
         have HB := n2_
         clear n0_ n1_ n2_
         (try clear hb)
         (try clear hb2)
         (try clear hk)
         (try clear hi)
         refine hK.out _ _ ⟨(blk_cell BK181.out 0).trans rfl, (blk_cell BK181.out 1).trans rfl, (blk_cell BK181.out 2).trans rfl, (blk_cell BK181.out 3).trans rfl, (blk_cell BK181.out 4).trans rfl, (blk_cell BK181.out 5).trans rfl, (blk_cell BK181.out 6).trans rfl, (blk_cell BK181.out 7).trans rfl, (blk_cell BK180.out 0).trans rfl, (blk_cell BK180.out 1).trans rfl, (blk_cell BK180.out 2).trans rfl, (blk_cell BK180.out 3).trans rfl, (blk_cell BK180.out 4).trans rfl⟩ (fun hHeld => ?_)
         clear hK K
         refine norm_ (a' := ?_) ?_ ?_
         rotate_left
         ·show Act.put _ (some 41) _ = _
          simp only [Act.put, List.setIfInBounds_toArray, List.set_cons_zero, List.set_cons_succ, i64_w, i32_w]
          rfl
         refine one_ (i := 11) (N := some 44) #[true, true, true, true, true, true, true, true, true, true, true, true, false, false] rfl rfl (one_of HT_.out (by kernel_rfl)) (by decide) (fun K hK => ?_)
         refine goes_ Try.func45 (by kernel_rfl) rfl #[.agg #[.bool t186, .int .i64 t187, .string t188], .agg #[.bool a0_2, .int .i64 a0_3, .string a0_4]] (by rfl) rfl rfl (by (try simp only [List.map_toArray, List.map_cons, List.map_nil]); first | done | rfl | (simp only [List.length_drop, List.length_take]; rfl)) ?_
         with_reducible refine (kinds_Compare_c.calls t186 t187 t188 a0_2 a0_3 a0_4 t189 _ A42.out).mono ?_
         rintro e w64 ⟨rfl, hb⟩
         refine ⟨_, rfl, ?_⟩
         have n0_ := Aside0.mk (blk_below (g := gb180) (o := .cells #[.int .i64 a0_0, .int .i64 a0_1, .bool a0_2, .int .i64 a0_3, .string a0_4] 38 (0, 0)) (by (with_reducible repeat (first | refine blk_drewN ?_ _ | refine blk_drew ?_ | refine blk_alloc ?_ _)); exact BK180.out) hb)
         have n1_ := Aside0.mk (blk_below (g := gb181) (o := .cells #[.bool a1_0, .bool a1_1, .bool a1_2, .int .i64 a1_3, .string a1_4, .bool a1_5, .int .i64 a1_6, .string a1_7] 41 (0, 0)) (by (with_reducible repeat (first | refine blk_drewN ?_ _ | refine blk_drew ?_ | refine blk_alloc ?_ _)); exact BK181.out) hb)
         have n2_ := Aside0.mk (below_step (by with_reducible repeat first | exact HB.out | apply below_alloc | apply pw_below_drewN | apply below_drew1 | refine below_set ?_ GE180.out | refine below_set ?_ GE181.out) hb)
         clear BK180
         clear BK181
         clear HB
         have BK180 := n0_
         have BK181 := n1_
         have HB := n2_
         clear n0_ n1_ n2_
         (try clear hb)
         (try clear hb2)
         (try clear hk)
         (try clear hi)
         refine hK.out _ _ ⟨(blk_cell BK181.out 0).trans rfl, (blk_cell BK181.out 1).trans rfl, (blk_cell BK181.out 2).trans rfl, (blk_cell BK181.out 3).trans rfl, (blk_cell BK181.out 4).trans rfl, (blk_cell BK181.out 5).trans rfl, (blk_cell BK181.out 6).trans rfl, (blk_cell BK181.out 7).trans rfl, (blk_cell BK180.out 0).trans rfl, (blk_cell BK180.out 1).trans rfl, (blk_cell BK180.out 2).trans rfl, (blk_cell BK180.out 3).trans rfl, (blk_cell BK180.out 4).trans rfl⟩ (fun hHeld => ?_)
         clear hK K
         refine norm_ (a' := ?_) ?_ ?_
         rotate_left
         ·show Act.put _ (some 44) _ = _
          simp only [Act.put, List.setIfInBounds_toArray, List.set_cons_zero, List.set_cons_succ, i64_w, i32_w]
          rfl
         refine pure_ (i := 12) (N := some 5) (v := ?_) (a' := ?_) #[true, true, true, true, true, true, true, true, true, true, true, true, true, false] rfl rfl (any_of HT_.out (by kernel_rfl)) (fun _ _ _ h => h) (Or.inl ⟨by rfl, ?_⟩) ?_ ?_
         rotate_left
         ·intro w'
          go_simp
          with_reducible rfl
         rotate_left
         ·simp only [Act.put, List.setIfInBounds_toArray, List.set_cons_zero, List.set_cons_succ, i64_w, i32_w]
          rfl
         refine pure_ (i := 13) (N := some 6) (v := ?_) (a' := ?_) #[true, true, true, true, true, true, true, true, true, true, true, true, true, true] rfl rfl (any_of HT_.out (by kernel_rfl)) (fun _ _ _ h => h) (Or.inl ⟨by rfl, ?_⟩) ?_ ?_
         rotate_left
         ·intro w'
          go_simp
          with_reducible rfl
         rotate_left
         ·simp only [Act.put, List.setIfInBounds_toArray, List.set_cons_zero, List.set_cons_succ, i64_w, i32_w]
          rfl
         refine done_ (done_of HT_.out (by kernel_rfl)) ?_
         have hnb65 := NB180_181.out
         have hnc65 := NB181_180.out
         obtain ⟨hcz66_0, hcz66_1, hcz66_2, hcz66_3, hcz66_4⟩ := bc5 BK180.out
         obtain ⟨hfz66_0, hfz66_1, hfz66_2, hfz66_3, hfz66_4⟩ := bf5 BK180.out
         try go_wp2
         go_ret
         exact ⟨by first | rfl | (simp [errW_none, errW_some] <;> rfl) | (simp [*, errW_none, errW_some] <;> rfl), by repeat (first | (with_reducible first | exact HB.out | apply below_alloc | apply pw_below_drewN | apply below_drew1 | refine below_set ?_ GE180.out | refine below_set ?_ GE181.out) | exact HB.out)⟩
        ·rw [if_neg c59] at H
         have c59b0 : (a0_0 == 2) = false := beq_eq_false_iff_ne.mpr c59
         have c59b1 : (a0_0 != 2) = true := bne_iff_ne.mpr c59
         by_cases c67 : a0_0 = 3
         ·rw [if_pos c67] at H
          have c67b0 : (a0_0 == 3) = true := beq_iff_eq.mpr c67
          have c67b1 : (a0_0 != 3) = false := bne_eq_false_iff_eq.mpr c67
          clear c67
          obtain rfl := Option.some.inj H
          try go_wp2
          have n0_ := Aside0.mk (blk_drew BK180.out)
          have n1_ := Aside0.mk (blk_drew BK181.out)
          have n2_ := Aside0.mk (below_drew1 HB.out)
          clear BK180
          clear BK181
          clear HB
          have BK180 := n0_
          have BK181 := n1_
          have HB := n2_
          clear n0_ n1_ n2_
          refine start_ (n := 14) (S := fun w' => w'.cell? ⟨gb181, 0, none⟩ = some (.bool a1_0) ∧ w'.cell? ⟨gb181, 1, none⟩ = some (.bool a1_1) ∧ w'.cell? ⟨gb181, 2, none⟩ = some (.bool a1_2) ∧ w'.cell? ⟨gb181, 3, none⟩ = some (.int .i64 a1_3) ∧ w'.cell? ⟨gb181, 4, none⟩ = some (.string a1_4) ∧ w'.cell? ⟨gb181, 5, none⟩ = some (.bool a1_5) ∧ w'.cell? ⟨gb181, 6, none⟩ = some (.int .i64 a1_6) ∧ w'.cell? ⟨gb181, 7, none⟩ = some (.string a1_7) ∧ w'.cell? ⟨gb180, 0, none⟩ = some (.int .i64 a0_0) ∧ w'.cell? ⟨gb180, 1, none⟩ = some (.int .i64 a0_1) ∧ w'.cell? ⟨gb180, 2, none⟩ = some (.bool a0_2) ∧ w'.cell? ⟨gb180, 3, none⟩ = some (.int .i64 a0_3) ∧ w'.cell? ⟨gb180, 4, none⟩ = some (.string a0_4)) (ds := []) #[false, false, false, false, false, false, false, false, false, false, false, false, false, false] (by kernel_rfl) rfl rfl ⟨(blk_cell BK181.out 0).trans rfl, (blk_cell BK181.out 1).trans rfl, (blk_cell BK181.out 2).trans rfl, (blk_cell BK181.out 3).trans rfl, (blk_cell BK181.out 4).trans rfl, (blk_cell BK181.out 5).trans rfl, (blk_cell BK181.out 6).trans rfl, (blk_cell BK181.out 7).trans rfl, (blk_cell BK180.out 0).trans rfl, (blk_cell BK180.out 1).trans rfl, (blk_cell BK180.out 2).trans rfl, (blk_cell BK180.out 3).trans rfl, (blk_cell BK180.out 4).trans rfl⟩ (fun hHeld => ?_); refine with_tabW zone_May.tab10 zone_May.bits10 (fun HT_ HW_ => ?_)
          generalize wc.drew = w68 at BK180 BK181 HB hHeld ⊢
          refine pure_ (i := 0) (N := some 33) (v := ?_) (a' := ?_) #[true, false, false, false, false, false, false, false, false, false, false, false, false, false] rfl rfl (any_of HT_.out (by kernel_rfl)) (fun _ _ _ h => h) (Or.inl ⟨by rfl, ?_⟩) ?_ ?_
          rotate_left
          ·intro w'
           go_simp
           with_reducible rfl
          rotate_left
          ·simp only [Act.put, List.setIfInBounds_toArray, List.set_cons_zero, List.set_cons_succ, i64_w, i32_w]
           rfl
          refine pure_ (i := 3) (N := some 36) (v := ?_) (a' := ?_) #[true, false, false, true, false, false, false, false, false, false, false, false, false, false] rfl rfl (any_of HT_.out (by kernel_rfl)) (fun _ _ _ h => h) (Or.inl ⟨by rfl, ?_⟩) ?_ ?_
          rotate_left
          ·intro w'
           go_simp
           with_reducible rfl
          rotate_left
          ·simp only [Act.put, List.setIfInBounds_toArray, List.set_cons_zero, List.set_cons_succ, i64_w, i32_w]
           rfl
          refine pure_ (i := 6) (N := some 39) (v := ?_) (a' := ?_) #[true, false, false, true, false, false, true, false, false, false, false, false, false, false] rfl rfl (any_of HT_.out (by kernel_rfl)) (fun _ _ _ h => h) (Or.inl ⟨by rfl, ?_⟩) ?_ ?_
          rotate_left
          ·intro w'
           go_simp
           with_reducible rfl
          rotate_left
          ·simp only [Act.put, List.setIfInBounds_toArray, List.set_cons_zero, List.set_cons_succ, i64_w, i32_w]
           rfl
          refine pure_ (i := 9) (N := some 42) (v := ?_) (a' := ?_) #[true, false, false, true, false, false, true, false, false, true, false, false, false, false] rfl rfl (any_of HT_.out (by kernel_rfl)) (fun _ _ _ h => h) (Or.inl ⟨by rfl, ?_⟩) ?_ ?_
          rotate_left
          ·intro w'
           go_simp
           with_reducible rfl
          rotate_left
          ·simp only [Act.put, List.setIfInBounds_toArray, List.set_cons_zero, List.set_cons_succ, i64_w, i32_w]
           rfl
          refine take_ (i := 1) (N := some 34) (v := ?_) (a' := ?_) #[true, true, false, true, false, false, true, false, false, true, false, false, false, false] rfl rfl (take_ofW HT_.out HW_.out (by kernel_rfl)) (fun _ _ _ h => h) (Or.inl ⟨by rfl, ?_⟩) hHeld ?_ ?_
          rotate_left
          ·rintro w' ⟨s0, s1, s2, s3, s4, s5, s6, s7, s8, s9, s10, s11, s12⟩
           go_simp
           with_reducible rfl
          rotate_left
          ·simp only [Act.put, List.setIfInBounds_toArray, List.set_cons_zero, List.set_cons_succ, i64_w, i32_w]
           rfl
          refine take_ (i := 4) (N := some 37) (v := ?_) (a' := ?_) #[true, true, false, true, true, false, true, false, false, true, false, false, false, false] rfl rfl (take_ofW HT_.out HW_.out (by kernel_rfl)) (fun _ _ _ h => h) (Or.inl ⟨by rfl, ?_⟩) hHeld ?_ ?_
          rotate_left
          ·rintro w' ⟨s0, s1, s2, s3, s4, s5, s6, s7, s8, s9, s10, s11, s12⟩
           go_simp
           with_reducible rfl
          rotate_left
          ·simp only [Act.put, List.setIfInBounds_toArray, List.set_cons_zero, List.set_cons_succ, i64_w, i32_w]
           rfl
          refine take_ (i := 7) (N := some 40) (v := ?_) (a' := ?_) #[true, true, false, true, true, false, true, true, false, true, false, false, false, false] rfl rfl (take_ofW HT_.out HW_.out (by kernel_rfl)) (fun _ _ _ h => h) (Or.inl ⟨by rfl, ?_⟩) hHeld ?_ ?_
          rotate_left
          ·rintro w' ⟨s0, s1, s2, s3, s4, s5, s6, s7, s8, s9, s10, s11, s12⟩
           go_simp
           with_reducible rfl
          rotate_left
          ·simp only [Act.put, List.setIfInBounds_toArray, List.set_cons_zero, List.set_cons_succ, i64_w, i32_w]
           rfl
          refine take_ (i := 10) (N := some 43) (v := ?_) (a' := ?_) #[true, true, false, true, true, false, true, true, false, true, true, false, false, false] rfl rfl (take_ofW HT_.out HW_.out (by kernel_rfl)) (fun _ _ _ h => h) (Or.inl ⟨by rfl, ?_⟩) hHeld ?_ ?_
          rotate_left
          ·rintro w' ⟨s0, s1, s2, s3, s4, s5, s6, s7, s8, s9, s10, s11, s12⟩
           go_simp
           with_reducible rfl
          rotate_left
          ·simp only [Act.put, List.setIfInBounds_toArray, List.set_cons_zero, List.set_cons_succ, i64_w, i32_w]
           rfl
          refine one_ (i := 2) (N := some 35) #[true, true, true, true, true, false, true, true, false, true, true, false, false, false] rfl rfl (one_of HT_.out (by kernel_rfl)) (by decide) (fun K hK => ?_)
          refine goes_ Try.func48 (by kernel_rfl) rfl #[.agg #[.bool a1_2, .int .i64 a1_3, .string a1_4]] (by rfl) rfl rfl (by (try simp only [List.map_toArray, List.map_cons, List.map_nil]); first | done | rfl | (simp only [List.length_drop, List.length_take]; rfl)) ?_
          with_reducible refine (zone_solid.calls a1_2 a1_3 a1_4 t182 t183 t184 _ A39.out).mono ?_
          rintro e w69 ⟨rfl, hb⟩
          refine ⟨_, rfl, ?_⟩
          have n0_ := Aside0.mk (blk_below (g := gb180) (o := .cells #[.int .i64 a0_0, .int .i64 a0_1, .bool a0_2, .int .i64 a0_3, .string a0_4] 38 (0, 0)) (by (with_reducible repeat (first | refine blk_drewN ?_ _ | refine blk_drew ?_ | refine blk_alloc ?_ _)); exact BK180.out) hb)
          have n1_ := Aside0.mk (blk_below (g := gb181) (o := .cells #[.bool a1_0, .bool a1_1, .bool a1_2, .int .i64 a1_3, .string a1_4, .bool a1_5, .int .i64 a1_6, .string a1_7] 41 (0, 0)) (by (with_reducible repeat (first | refine blk_drewN ?_ _ | refine blk_drew ?_ | refine blk_alloc ?_ _)); exact BK181.out) hb)
          have n2_ := Aside0.mk (below_step (by with_reducible repeat first | exact HB.out | apply below_alloc | apply pw_below_drewN | apply below_drew1 | refine below_set ?_ GE180.out | refine below_set ?_ GE181.out) hb)
          clear BK180
          clear BK181
          clear HB
          have BK180 := n0_
          have BK181 := n1_
          have HB := n2_
          clear n0_ n1_ n2_
          (try clear hb)
          (try clear hb2)
          (try clear hk)
          (try clear hi)
          refine hK.out _ _ ⟨(blk_cell BK181.out 0).trans rfl, (blk_cell BK181.out 1).trans rfl, (blk_cell BK181.out 2).trans rfl, (blk_cell BK181.out 3).trans rfl, (blk_cell BK181.out 4).trans rfl, (blk_cell BK181.out 5).trans rfl, (blk_cell BK181.out 6).trans rfl, (blk_cell BK181.out 7).trans rfl, (blk_cell BK180.out 0).trans rfl, (blk_cell BK180.out 1).trans rfl, (blk_cell BK180.out 2).trans rfl, (blk_cell BK180.out 3).trans rfl, (blk_cell BK180.out 4).trans rfl⟩ (fun hHeld => ?_)
          clear hK K
          refine norm_ (a' := ?_) ?_ ?_
          rotate_left
          ·show Act.put _ (some 35) _ = _
           simp only [Act.put, List.setIfInBounds_toArray, List.set_cons_zero, List.set_cons_succ, i64_w, i32_w]
           rfl
          refine one_ (i := 5) (N := some 38) #[true, true, true, true, true, true, true, true, false, true, true, false, false, false] rfl rfl (one_of HT_.out (by kernel_rfl)) (by decide) (fun K hK => ?_)
          refine goes_ Try.func45 (by kernel_rfl) rfl #[.agg #[.bool t182, .int .i64 t183, .string t184], .agg #[.bool a0_2, .int .i64 a0_3, .string a0_4]] (by rfl) rfl rfl (by (try simp only [List.map_toArray, List.map_cons, List.map_nil]); first | done | rfl | (simp only [List.length_drop, List.length_take]; rfl)) ?_
          with_reducible refine (kinds_Compare_c.calls t182 t183 t184 a0_2 a0_3 a0_4 t185 _ A40.out).mono ?_
          rintro e w70 ⟨rfl, hb⟩
          refine ⟨_, rfl, ?_⟩
          have n0_ := Aside0.mk (blk_below (g := gb180) (o := .cells #[.int .i64 a0_0, .int .i64 a0_1, .bool a0_2, .int .i64 a0_3, .string a0_4] 38 (0, 0)) (by (with_reducible repeat (first | refine blk_drewN ?_ _ | refine blk_drew ?_ | refine blk_alloc ?_ _)); exact BK180.out) hb)
          have n1_ := Aside0.mk (blk_below (g := gb181) (o := .cells #[.bool a1_0, .bool a1_1, .bool a1_2, .int .i64 a1_3, .string a1_4, .bool a1_5, .int .i64 a1_6, .string a1_7] 41 (0, 0)) (by (with_reducible repeat (first | refine blk_drewN ?_ _ | refine blk_drew ?_ | refine blk_alloc ?_ _)); exact BK181.out) hb)
          have n2_ := Aside0.mk (below_step (by with_reducible repeat first | exact HB.out | apply below_alloc | apply pw_below_drewN | apply below_drew1 | refine below_set ?_ GE180.out | refine below_set ?_ GE181.out) hb)
          clear BK180
          clear BK181
          clear HB
          have BK180 := n0_
          have BK181 := n1_
          have HB := n2_
          clear n0_ n1_ n2_
          (try clear hb)
          (try clear hb2)
          (try clear hk)
          (try clear hi)
          refine hK.out _ _ ⟨(blk_cell BK181.out 0).trans rfl, (blk_cell BK181.out 1).trans rfl, (blk_cell BK181.out 2).trans rfl, (blk_cell BK181.out 3).trans rfl, (blk_cell BK181.out 4).trans rfl, (blk_cell BK181.out 5).trans rfl, (blk_cell BK181.out 6).trans rfl, (blk_cell BK181.out 7).trans rfl, (blk_cell BK180.out 0).trans rfl, (blk_cell BK180.out 1).trans rfl, (blk_cell BK180.out 2).trans rfl, (blk_cell BK180.out 3).trans rfl, (blk_cell BK180.out 4).trans rfl⟩ (fun hHeld => ?_)
          clear hK K
          refine norm_ (a' := ?_) ?_ ?_
          rotate_left
          ·show Act.put _ (some 38) _ = _
           simp only [Act.put, List.setIfInBounds_toArray, List.set_cons_zero, List.set_cons_succ, i64_w, i32_w]
           rfl
          refine one_ (i := 8) (N := some 41) #[true, true, true, true, true, true, true, true, true, true, true, false, false, false] rfl rfl (one_of HT_.out (by kernel_rfl)) (by decide) (fun K hK => ?_)
          refine goes_ Try.func48 (by kernel_rfl) rfl #[.agg #[.bool a1_5, .int .i64 a1_6, .string a1_7]] (by rfl) rfl rfl (by (try simp only [List.map_toArray, List.map_cons, List.map_nil]); first | done | rfl | (simp only [List.length_drop, List.length_take]; rfl)) ?_
          with_reducible refine (zone_solid.calls a1_5 a1_6 a1_7 t186 t187 t188 _ A41.out).mono ?_
          rintro e w71 ⟨rfl, hb⟩
          refine ⟨_, rfl, ?_⟩
          have n0_ := Aside0.mk (blk_below (g := gb180) (o := .cells #[.int .i64 a0_0, .int .i64 a0_1, .bool a0_2, .int .i64 a0_3, .string a0_4] 38 (0, 0)) (by (with_reducible repeat (first | refine blk_drewN ?_ _ | refine blk_drew ?_ | refine blk_alloc ?_ _)); exact BK180.out) hb)
          have n1_ := Aside0.mk (blk_below (g := gb181) (o := .cells #[.bool a1_0, .bool a1_1, .bool a1_2, .int .i64 a1_3, .string a1_4, .bool a1_5, .int .i64 a1_6, .string a1_7] 41 (0, 0)) (by (with_reducible repeat (first | refine blk_drewN ?_ _ | refine blk_drew ?_ | refine blk_alloc ?_ _)); exact BK181.out) hb)
          have n2_ := Aside0.mk (below_step (by with_reducible repeat first | exact HB.out | apply below_alloc | apply pw_below_drewN | apply below_drew1 | refine below_set ?_ GE180.out | refine below_set ?_ GE181.out) hb)
          clear BK180
          clear BK181
          clear HB
          have BK180 := n0_
          have BK181 := n1_
          have HB := n2_
          clear n0_ n1_ n2_
          (try clear hb)
          (try clear hb2)
          (try clear hk)
          (try clear hi)
          refine hK.out _ _ ⟨(blk_cell BK181.out 0).trans rfl, (blk_cell BK181.out 1).trans rfl, (blk_cell BK181.out 2).trans rfl, (blk_cell BK181.out 3).trans rfl, (blk_cell BK181.out 4).trans rfl, (blk_cell BK181.out 5).trans rfl, (blk_cell BK181.out 6).trans rfl, (blk_cell BK181.out 7).trans rfl, (blk_cell BK180.out 0).trans rfl, (blk_cell BK180.out 1).trans rfl, (blk_cell BK180.out 2).trans rfl, (blk_cell BK180.out 3).trans rfl, (blk_cell BK180.out 4).trans rfl⟩ (fun hHeld => ?_)
          clear hK K
          refine norm_ (a' := ?_) ?_ ?_
          rotate_left
          ·show Act.put _ (some 41) _ = _
           simp only [Act.put, List.setIfInBounds_toArray, List.set_cons_zero, List.set_cons_succ, i64_w, i32_w]
           rfl
          refine one_ (i := 11) (N := some 44) #[true, true, true, true, true, true, true, true, true, true, true, true, false, false] rfl rfl (one_of HT_.out (by kernel_rfl)) (by decide) (fun K hK => ?_)
          refine goes_ Try.func45 (by kernel_rfl) rfl #[.agg #[.bool t186, .int .i64 t187, .string t188], .agg #[.bool a0_2, .int .i64 a0_3, .string a0_4]] (by rfl) rfl rfl (by (try simp only [List.map_toArray, List.map_cons, List.map_nil]); first | done | rfl | (simp only [List.length_drop, List.length_take]; rfl)) ?_
          with_reducible refine (kinds_Compare_c.calls t186 t187 t188 a0_2 a0_3 a0_4 t189 _ A42.out).mono ?_
          rintro e w72 ⟨rfl, hb⟩
          refine ⟨_, rfl, ?_⟩
          have n0_ := Aside0.mk (blk_below (g := gb180) (o := .cells #[.int .i64 a0_0, .int .i64 a0_1, .bool a0_2, .int .i64 a0_3, .string a0_4] 38 (0, 0)) (by (with_reducible repeat (first | refine blk_drewN ?_ _ | refine blk_drew ?_ | refine blk_alloc ?_ _)); exact BK180.out) hb)
          have n1_ := Aside0.mk (blk_below (g := gb181) (o := .cells #[.bool a1_0, .bool a1_1, .bool a1_2, .int .i64 a1_3, .string a1_4, .bool a1_5, .int .i64 a1_6, .string a1_7] 41 (0, 0)) (by (with_reducible repeat (first | refine blk_drewN ?_ _ | refine blk_drew ?_ | refine blk_alloc ?_ _)); exact BK181.out) hb)
          have n2_ := Aside0.mk (below_step (by with_reducible repeat first | exact HB.out | apply below_alloc | apply pw_below_drewN | apply below_drew1 | refine below_set ?_ GE180.out | refine below_set ?_ GE181.out) hb)
          clear BK180
          clear BK181
          clear HB
          have BK180 := n0_
          have BK181 := n1_
          have HB := n2_
          clear n0_ n1_ n2_
          (try clear hb)
          (try clear hb2)
          (try clear hk)
          (try clear hi)
          refine hK.out _ _ ⟨(blk_cell BK181.out 0).trans rfl, (blk_cell BK181.out 1).trans rfl, (blk_cell BK181.out 2).trans rfl, (blk_cell BK181.out 3).trans rfl, (blk_cell BK181.out 4).trans rfl, (blk_cell BK181.out 5).trans rfl, (blk_cell BK181.out 6).trans rfl, (blk_cell BK181.out 7).trans rfl, (blk_cell BK180.out 0).trans rfl, (blk_cell BK180.out 1).trans rfl, (blk_cell BK180.out 2).trans rfl, (blk_cell BK180.out 3).trans rfl, (blk_cell BK180.out 4).trans rfl⟩ (fun hHeld => ?_)
          clear hK K
          refine norm_ (a' := ?_) ?_ ?_
          rotate_left
          ·show Act.put _ (some 44) _ = _
           simp only [Act.put, List.setIfInBounds_toArray, List.set_cons_zero, List.set_cons_succ, i64_w, i32_w]
           rfl
          refine pure_ (i := 12) (N := some 5) (v := ?_) (a' := ?_) #[true, true, true, true, true, true, true, true, true, true, true, true, true, false] rfl rfl (any_of HT_.out (by kernel_rfl)) (fun _ _ _ h => h) (Or.inl ⟨by rfl, ?_⟩) ?_ ?_
          rotate_left
          ·intro w'
           go_simp
           with_reducible rfl
          rotate_left
          ·simp only [Act.put, List.setIfInBounds_toArray, List.set_cons_zero, List.set_cons_succ, i64_w, i32_w]
           rfl
          refine pure_ (i := 13) (N := some 6) (v := ?_) (a' := ?_) #[true, true, true, true, true, true, true, true, true, true, true, true, true, true] rfl rfl (any_of HT_.out (by kernel_rfl)) (fun _ _ _ h => h) (Or.inl ⟨by rfl, ?_⟩) ?_ ?_
          rotate_left
          ·intro w'
           go_simp
           with_reducible rfl
          rotate_left
          ·simp only [Act.put, List.setIfInBounds_toArray, List.set_cons_zero, List.set_cons_succ, i64_w, i32_w]
           rfl
          refine done_ (done_of HT_.out (by kernel_rfl)) ?_
          have hnb73 := NB180_181.out
          have hnc73 := NB181_180.out
          obtain ⟨hcz74_0, hcz74_1, hcz74_2, hcz74_3, hcz74_4⟩ := bc5 BK180.out
          obtain ⟨hfz74_0, hfz74_1, hfz74_2, hfz74_3, hfz74_4⟩ := bf5 BK180.out
          try go_wp2
          go_ret
          exact ⟨by first | rfl | (simp [errW_none, errW_some] <;> rfl) | (simp [*, errW_none, errW_some] <;> rfl), by repeat (first | (with_reducible first | exact HB.out | apply below_alloc | apply pw_below_drewN | apply below_drew1 | refine below_set ?_ GE180.out | refine below_set ?_ GE181.out) | exact HB.out)⟩
         ·rw [if_neg c67] at H
          have c67b0 : (a0_0 == 3) = false := beq_eq_false_iff_ne.mpr c67
          have c67b1 : (a0_0 != 3) = true := bne_iff_ne.mpr c67
          obtain rfl := Option.some.inj H
          try go_wp2
          have n0_ := Aside0.mk (blk_drew BK180.out)
          have n1_ := Aside0.mk (blk_drew BK181.out)
          have n2_ := Aside0.mk (below_drew1 HB.out)
          clear BK180
          clear BK181
          clear HB
          have BK180 := n0_
          have BK181 := n1_
          have HB := n2_
          clear n0_ n1_ n2_
          refine start_ (n := 14) (S := fun w' => w'.cell? ⟨gb181, 0, none⟩ = some (.bool a1_0) ∧ w'.cell? ⟨gb181, 1, none⟩ = some (.bool a1_1) ∧ w'.cell? ⟨gb181, 2, none⟩ = some (.bool a1_2) ∧ w'.cell? ⟨gb181, 3, none⟩ = some (.int .i64 a1_3) ∧ w'.cell? ⟨gb181, 4, none⟩ = some (.string a1_4) ∧ w'.cell? ⟨gb181, 5, none⟩ = some (.bool a1_5) ∧ w'.cell? ⟨gb181, 6, none⟩ = some (.int .i64 a1_6) ∧ w'.cell? ⟨gb181, 7, none⟩ = some (.string a1_7) ∧ w'.cell? ⟨gb180, 0, none⟩ = some (.int .i64 a0_0) ∧ w'.cell? ⟨gb180, 1, none⟩ = some (.int .i64 a0_1) ∧ w'.cell? ⟨gb180, 2, none⟩ = some (.bool a0_2) ∧ w'.cell? ⟨gb180, 3, none⟩ = some (.int .i64 a0_3) ∧ w'.cell? ⟨gb180, 4, none⟩ = some (.string a0_4)) (ds := []) #[false, false, false, false, false, false, false, false, false, false, false, false, false, false] (by kernel_rfl) rfl rfl ⟨(blk_cell BK181.out 0).trans rfl, (blk_cell BK181.out 1).trans rfl, (blk_cell BK181.out 2).trans rfl, (blk_cell BK181.out 3).trans rfl, (blk_cell BK181.out 4).trans rfl, (blk_cell BK181.out 5).trans rfl, (blk_cell BK181.out 6).trans rfl, (blk_cell BK181.out 7).trans rfl, (blk_cell BK180.out 0).trans rfl, (blk_cell BK180.out 1).trans rfl, (blk_cell BK180.out 2).trans rfl, (blk_cell BK180.out 3).trans rfl, (blk_cell BK180.out 4).trans rfl⟩ (fun hHeld => ?_); refine with_tabW zone_May.tab10 zone_May.bits10 (fun HT_ HW_ => ?_)
          generalize wc.drew = w75 at BK180 BK181 HB hHeld ⊢
          refine pure_ (i := 0) (N := some 33) (v := ?_) (a' := ?_) #[true, false, false, false, false, false, false, false, false, false, false, false, false, false] rfl rfl (any_of HT_.out (by kernel_rfl)) (fun _ _ _ h => h) (Or.inl ⟨by rfl, ?_⟩) ?_ ?_
          rotate_left
          ·intro w'
           go_simp
           with_reducible rfl
          rotate_left
          ·simp only [Act.put, List.setIfInBounds_toArray, List.set_cons_zero, List.set_cons_succ, i64_w, i32_w]
           rfl
          refine pure_ (i := 3) (N := some 36) (v := ?_) (a' := ?_) #[true, false, false, true, false, false, false, false, false, false, false, false, false, false] rfl rfl (any_of HT_.out (by kernel_rfl)) (fun _ _ _ h => h) (Or.inl ⟨by rfl, ?_⟩) ?_ ?_
          rotate_left
          ·intro w'
           go_simp
           with_reducible rfl
          rotate_left
          ·simp only [Act.put, List.setIfInBounds_toArray, List.set_cons_zero, List.set_cons_succ, i64_w, i32_w]
           rfl
          refine pure_ (i := 6) (N := some 39) (v := ?_) (a' := ?_) #[true, false, false, true, false, false, true, false, false, false, false, false, false, false] rfl rfl (any_of HT_.out (by kernel_rfl)) (fun _ _ _ h => h) (Or.inl ⟨by rfl, ?_⟩) ?_ ?_
          rotate_left
          ·intro w'
           go_simp
           with_reducible rfl
          rotate_left
          ·simp only [Act.put, List.setIfInBounds_toArray, List.set_cons_zero, List.set_cons_succ, i64_w, i32_w]
           rfl
          refine pure_ (i := 9) (N := some 42) (v := ?_) (a' := ?_) #[true, false, false, true, false, false, true, false, false, true, false, false, false, false] rfl rfl (any_of HT_.out (by kernel_rfl)) (fun _ _ _ h => h) (Or.inl ⟨by rfl, ?_⟩) ?_ ?_
          rotate_left
          ·intro w'
           go_simp
           with_reducible rfl
          rotate_left
          ·simp only [Act.put, List.setIfInBounds_toArray, List.set_cons_zero, List.set_cons_succ, i64_w, i32_w]
           rfl
          refine take_ (i := 1) (N := some 34) (v := ?_) (a' := ?_) #[true, true, false, true, false, false, true, false, false, true, false, false, false, false] rfl rfl (take_ofW HT_.out HW_.out (by kernel_rfl)) (fun _ _ _ h => h) (Or.inl ⟨by rfl, ?_⟩) hHeld ?_ ?_
          rotate_left
          ·rintro w' ⟨s0, s1, s2, s3, s4, s5, s6, s7, s8, s9, s10, s11, s12⟩
           go_simp
           with_reducible rfl
          rotate_left
          ·simp only [Act.put, List.setIfInBounds_toArray, List.set_cons_zero, List.set_cons_succ, i64_w, i32_w]
           rfl
          refine take_ (i := 4) (N := some 37) (v := ?_) (a' := ?_) #[true, true, false, true, true, false, true, false, false, true, false, false, false, false] rfl rfl (take_ofW HT_.out HW_.out (by kernel_rfl)) (fun _ _ _ h => h) (Or.inl ⟨by rfl, ?_⟩) hHeld ?_ ?_
          rotate_left
          ·rintro w' ⟨s0, s1, s2, s3, s4, s5, s6, s7, s8, s9, s10, s11, s12⟩
           go_simp
           with_reducible rfl
          rotate_left
          ·simp only [Act.put, List.setIfInBounds_toArray, List.set_cons_zero, List.set_cons_succ, i64_w, i32_w]
           rfl
          refine take_ (i := 7) (N := some 40) (v := ?_) (a' := ?_) #[true, true, false, true, true, false, true, true, false, true, false, false, false, false] rfl rfl (take_ofW HT_.out HW_.out (by kernel_rfl)) (fun _ _ _ h => h) (Or.inl ⟨by rfl, ?_⟩) hHeld ?_ ?_
          rotate_left
          ·rintro w' ⟨s0, s1, s2, s3, s4, s5, s6, s7, s8, s9, s10, s11, s12⟩
           go_simp
           with_reducible rfl
          rotate_left
          ·simp only [Act.put, List.setIfInBounds_toArray, List.set_cons_zero, List.set_cons_succ, i64_w, i32_w]
           rfl
          refine take_ (i := 10) (N := some 43) (v := ?_) (a' := ?_) #[true, true, false, true, true, false, true, true, false, true, true, false, false, false] rfl rfl (take_ofW HT_.out HW_.out (by kernel_rfl)) (fun _ _ _ h => h) (Or.inl ⟨by rfl, ?_⟩) hHeld ?_ ?_
          rotate_left
          ·rintro w' ⟨s0, s1, s2, s3, s4, s5, s6, s7, s8, s9, s10, s11, s12⟩
           go_simp
           with_reducible rfl
          rotate_left
          ·simp only [Act.put, List.setIfInBounds_toArray, List.set_cons_zero, List.set_cons_succ, i64_w, i32_w]
           rfl
          refine one_ (i := 2) (N := some 35) #[true, true, true, true, true, false, true, true, false, true, true, false, false, false] rfl rfl (one_of HT_.out (by kernel_rfl)) (by decide) (fun K hK => ?_)
          refine goes_ Try.func48 (by kernel_rfl) rfl #[.agg #[.bool a1_2, .int .i64 a1_3, .string a1_4]] (by rfl) rfl rfl (by (try simp only [List.map_toArray, List.map_cons, List.map_nil]); first | done | rfl | (simp only [List.length_drop, List.length_take]; rfl)) ?_
          with_reducible refine (zone_solid.calls a1_2 a1_3 a1_4 t182 t183 t184 _ A39.out).mono ?_
          rintro e w76 ⟨rfl, hb⟩
          refine ⟨_, rfl, ?_⟩
          have n0_ := Aside0.mk (blk_below (g := gb180) (o := .cells #[.int .i64 a0_0, .int .i64 a0_1, .bool a0_2, .int .i64 a0_3, .string a0_4] 38 (0, 0)) (by (with_reducible repeat (first | refine blk_drewN ?_ _ | refine blk_drew ?_ | refine blk_alloc ?_ _)); exact BK180.out) hb)
          have n1_ := Aside0.mk (blk_below (g := gb181) (o := .cells #[.bool a1_0, .bool a1_1, .bool a1_2, .int .i64 a1_3, .string a1_4, .bool a1_5, .int .i64 a1_6, .string a1_7] 41 (0, 0)) (by (with_reducible repeat (first | refine blk_drewN ?_ _ | refine blk_drew ?_ | refine blk_alloc ?_ _)); exact BK181.out) hb)
          have n2_ := Aside0.mk (below_step (by with_reducible repeat first | exact HB.out | apply below_alloc | apply pw_below_drewN | apply below_drew1 | refine below_set ?_ GE180.out | refine below_set ?_ GE181.out) hb)
          clear BK180
          clear BK181
          clear HB
          have BK180 := n0_
          have BK181 := n1_
          have HB := n2_
          clear n0_ n1_ n2_
          (try clear hb)
          (try clear hb2)
          (try clear hk)
          (try clear hi)
          refine hK.out _ _ ⟨(blk_cell BK181.out 0).trans rfl, (blk_cell BK181.out 1).trans rfl, (blk_cell BK181.out 2).trans rfl, (blk_cell BK181.out 3).trans rfl, (blk_cell BK181.out 4).trans rfl, (blk_cell BK181.out 5).trans rfl, (blk_cell BK181.out 6).trans rfl, (blk_cell BK181.out 7).trans rfl, (blk_cell BK180.out 0).trans rfl, (blk_cell BK180.out 1).trans rfl, (blk_cell BK180.out 2).trans rfl, (blk_cell BK180.out 3).trans rfl, (blk_cell BK180.out 4).trans rfl⟩ (fun hHeld => ?_)
          clear hK K
          refine norm_ (a' := ?_) ?_ ?_
          rotate_left
          ·show Act.put _ (some 35) _ = _
           simp only [Act.put, List.setIfInBounds_toArray, List.set_cons_zero, List.set_cons_succ, i64_w, i32_w]
           rfl
          refine one_ (i := 5) (N := some 38) #[true, true, true, true, true, true, true, true, false, true, true, false, false, false] rfl rfl (one_of HT_.out (by kernel_rfl)) (by decide) (fun K hK => ?_)
          refine goes_ Try.func45 (by kernel_rfl) rfl #[.agg #[.bool t182, .int .i64 t183, .string t184], .agg #[.bool a0_2, .int .i64 a0_3, .string a0_4]] (by rfl) rfl rfl (by (try simp only [List.map_toArray, List.map_cons, List.map_nil]); first | done | rfl | (simp only [List.length_drop, List.length_take]; rfl)) ?_
          with_reducible refine (kinds_Compare_c.calls t182 t183 t184 a0_2 a0_3 a0_4 t185 _ A40.out).mono ?_
          rintro e w77 ⟨rfl, hb⟩
          refine ⟨_, rfl, ?_⟩
          have n0_ := Aside0.mk (blk_below (g := gb180) (o := .cells #[.int .i64 a0_0, .int .i64 a0_1, .bool a0_2, .int .i64 a0_3, .string a0_4] 38 (0, 0)) (by (with_reducible repeat (first | refine blk_drewN ?_ _ | refine blk_drew ?_ | refine blk_alloc ?_ _)); exact BK180.out) hb)
          have n1_ := Aside0.mk (blk_below (g := gb181) (o := .cells #[.bool a1_0, .bool a1_1, .bool a1_2, .int .i64 a1_3, .string a1_4, .bool a1_5, .int .i64 a1_6, .string a1_7] 41 (0, 0)) (by (with_reducible repeat (first | refine blk_drewN ?_ _ | refine blk_drew ?_ | refine blk_alloc ?_ _)); exact BK181.out) hb)
          have n2_ := Aside0.mk (below_step (by with_reducible repeat first | exact HB.out | apply below_alloc | apply pw_below_drewN | apply below_drew1 | refine below_set ?_ GE180.out | refine below_set ?_ GE181.out) hb)
          clear BK180
          clear BK181
          clear HB
          have BK180 := n0_
          have BK181 := n1_
          have HB := n2_
          clear n0_ n1_ n2_
          (try clear hb)
          (try clear hb2)
          (try clear hk)
          (try clear hi)
          refine hK.out _ _ ⟨(blk_cell BK181.out 0).trans rfl, (blk_cell BK181.out 1).trans rfl, (blk_cell BK181.out 2).trans rfl, (blk_cell BK181.out 3).trans rfl, (blk_cell BK181.out 4).trans rfl, (blk_cell BK181.out 5).trans rfl, (blk_cell BK181.out 6).trans rfl, (blk_cell BK181.out 7).trans rfl, (blk_cell BK180.out 0).trans rfl, (blk_cell BK180.out 1).trans rfl, (blk_cell BK180.out 2).trans rfl, (blk_cell BK180.out 3).trans rfl, (blk_cell BK180.out 4).trans rfl⟩ (fun hHeld => ?_)
          clear hK K
          refine norm_ (a' := ?_) ?_ ?_
          rotate_left
          ·show Act.put _ (some 38) _ = _
           simp only [Act.put, List.setIfInBounds_toArray, List.set_cons_zero, List.set_cons_succ, i64_w, i32_w]
           rfl
          refine one_ (i := 8) (N := some 41) #[true, true, true, true, true, true, true, true, true, true, true, false, false, false] rfl rfl (one_of HT_.out (by kernel_rfl)) (by decide) (fun K hK => ?_)
          refine goes_ Try.func48 (by kernel_rfl) rfl #[.agg #[.bool a1_5, .int .i64 a1_6, .string a1_7]] (by rfl) rfl rfl (by (try simp only [List.map_toArray, List.map_cons, List.map_nil]); first | done | rfl | (simp only [List.length_drop, List.length_take]; rfl)) ?_
          with_reducible refine (zone_solid.calls a1_5 a1_6 a1_7 t186 t187 t188 _ A41.out).mono ?_
          rintro e w78 ⟨rfl, hb⟩
          refine ⟨_, rfl, ?_⟩
          have n0_ := Aside0.mk (blk_below (g := gb180) (o := .cells #[.int .i64 a0_0, .int .i64 a0_1, .bool a0_2, .int .i64 a0_3, .string a0_4] 38 (0, 0)) (by (with_reducible repeat (first | refine blk_drewN ?_ _ | refine blk_drew ?_ | refine blk_alloc ?_ _)); exact BK180.out) hb)
          have n1_ := Aside0.mk (blk_below (g := gb181) (o := .cells #[.bool a1_0, .bool a1_1, .bool a1_2, .int .i64 a1_3, .string a1_4, .bool a1_5, .int .i64 a1_6, .string a1_7] 41 (0, 0)) (by (with_reducible repeat (first | refine blk_drewN ?_ _ | refine blk_drew ?_ | refine blk_alloc ?_ _)); exact BK181.out) hb)
          have n2_ := Aside0.mk (below_step (by with_reducible repeat first | exact HB.out | apply below_alloc | apply pw_below_drewN | apply below_drew1 | refine below_set ?_ GE180.out | refine below_set ?_ GE181.out) hb)
          clear BK180
          clear BK181
          clear HB
          have BK180 := n0_
          have BK181 := n1_
          have HB := n2_
          clear n0_ n1_ n2_
          (try clear hb)
          (try clear hb2)
          (try clear hk)
          (try clear hi)
          refine hK.out _ _ ⟨(blk_cell BK181.out 0).trans rfl, (blk_cell BK181.out 1).trans rfl, (blk_cell BK181.out 2).trans rfl, (blk_cell BK181.out 3).trans rfl, (blk_cell BK181.out 4).trans rfl, (blk_cell BK181.out 5).trans rfl, (blk_cell BK181.out 6).trans rfl, (blk_cell BK181.out 7).trans rfl, (blk_cell BK180.out 0).trans rfl, (blk_cell BK180.out 1).trans rfl, (blk_cell BK180.out 2).trans rfl, (blk_cell BK180.out 3).trans rfl, (blk_cell BK180.out 4).trans rfl⟩ (fun hHeld => ?_)
          clear hK K
          refine norm_ (a' := ?_) ?_ ?_
          rotate_left
          ·show Act.put _ (some 41) _ = _
           simp only [Act.put, List.setIfInBounds_toArray, List.set_cons_zero, List.set_cons_succ, i64_w, i32_w]
           rfl
          refine one_ (i := 11) (N := some 44) #[true, true, true, true, true, true, true, true, true, true, true, true, false, false] rfl rfl (one_of HT_.out (by kernel_rfl)) (by decide) (fun K hK => ?_)
          refine goes_ Try.func45 (by kernel_rfl) rfl #[.agg #[.bool t186, .int .i64 t187, .string t188], .agg #[.bool a0_2, .int .i64 a0_3, .string a0_4]] (by rfl) rfl rfl (by (try simp only [List.map_toArray, List.map_cons, List.map_nil]); first | done | rfl | (simp only [List.length_drop, List.length_take]; rfl)) ?_
          with_reducible refine (kinds_Compare_c.calls t186 t187 t188 a0_2 a0_3 a0_4 t189 _ A42.out).mono ?_
          rintro e w79 ⟨rfl, hb⟩
          refine ⟨_, rfl, ?_⟩
          have n0_ := Aside0.mk (blk_below (g := gb180) (o := .cells #[.int .i64 a0_0, .int .i64 a0_1, .bool a0_2, .int .i64 a0_3, .string a0_4] 38 (0, 0)) (by (with_reducible repeat (first | refine blk_drewN ?_ _ | refine blk_drew ?_ | refine blk_alloc ?_ _)); exact BK180.out) hb)
          have n1_ := Aside0.mk (blk_below (g := gb181) (o := .cells #[.bool a1_0, .bool a1_1, .bool a1_2, .int .i64 a1_3, .string a1_4, .bool a1_5, .int .i64 a1_6, .string a1_7] 41 (0, 0)) (by (with_reducible repeat (first | refine blk_drewN ?_ _ | refine blk_drew ?_ | refine blk_alloc ?_ _)); exact BK181.out) hb)
          have n2_ := Aside0.mk (below_step (by with_reducible repeat first | exact HB.out | apply below_alloc | apply pw_below_drewN | apply below_drew1 | refine below_set ?_ GE180.out | refine below_set ?_ GE181.out) hb)
          clear BK180
          clear BK181
          clear HB
          have BK180 := n0_
          have BK181 := n1_
          have HB := n2_
          clear n0_ n1_ n2_
          (try clear hb)
          (try clear hb2)
          (try clear hk)
          (try clear hi)
          refine hK.out _ _ ⟨(blk_cell BK181.out 0).trans rfl, (blk_cell BK181.out 1).trans rfl, (blk_cell BK181.out 2).trans rfl, (blk_cell BK181.out 3).trans rfl, (blk_cell BK181.out 4).trans rfl, (blk_cell BK181.out 5).trans rfl, (blk_cell BK181.out 6).trans rfl, (blk_cell BK181.out 7).trans rfl, (blk_cell BK180.out 0).trans rfl, (blk_cell BK180.out 1).trans rfl, (blk_cell BK180.out 2).trans rfl, (blk_cell BK180.out 3).trans rfl, (blk_cell BK180.out 4).trans rfl⟩ (fun hHeld => ?_)
          clear hK K
          refine norm_ (a' := ?_) ?_ ?_
          rotate_left
          ·show Act.put _ (some 44) _ = _
           simp only [Act.put, List.setIfInBounds_toArray, List.set_cons_zero, List.set_cons_succ, i64_w, i32_w]
           rfl
          refine pure_ (i := 12) (N := some 5) (v := ?_) (a' := ?_) #[true, true, true, true, true, true, true, true, true, true, true, true, true, false] rfl rfl (any_of HT_.out (by kernel_rfl)) (fun _ _ _ h => h) (Or.inl ⟨by rfl, ?_⟩) ?_ ?_
          rotate_left
          ·intro w'
           go_simp
           with_reducible rfl
          rotate_left
          ·simp only [Act.put, List.setIfInBounds_toArray, List.set_cons_zero, List.set_cons_succ, i64_w, i32_w]
           rfl
          refine pure_ (i := 13) (N := some 6) (v := ?_) (a' := ?_) #[true, true, true, true, true, true, true, true, true, true, true, true, true, true] rfl rfl (any_of HT_.out (by kernel_rfl)) (fun _ _ _ h => h) (Or.inl ⟨by rfl, ?_⟩) ?_ ?_
          rotate_left
          ·intro w'
           go_simp
           with_reducible rfl
          rotate_left
          ·simp only [Act.put, List.setIfInBounds_toArray, List.set_cons_zero, List.set_cons_succ, i64_w, i32_w]
           rfl
          refine done_ (done_of HT_.out (by kernel_rfl)) ?_
          have hnb80 := NB180_181.out
          have hnc80 := NB181_180.out
          obtain ⟨hcz81_0, hcz81_1, hcz81_2, hcz81_3, hcz81_4⟩ := bc5 BK180.out
          obtain ⟨hfz81_0, hfz81_1, hfz81_2, hfz81_3, hfz81_4⟩ := bf5 BK180.out
          try go_wp2
          go_ret
          exact ⟨by first | rfl | (simp [errW_none, errW_some] <;> rfl) | (simp [*, errW_none, errW_some] <;> rfl), by repeat (first | (with_reducible first | exact HB.out | apply below_alloc | apply pw_below_drewN | apply below_drew1 | refine below_set ?_ GE180.out | refine below_set ?_ GE181.out) | exact HB.out)⟩
/-! ### zone_May_c: function 24 -/
--@import Derived.Test.YtnfliommpdjlkaaThy
def mayV (a : S38) (z : Zn) : Bool :=
  if a.f0 = 0 then z.nu || z.va else if a.f0 = 4 then z.nu else if a.f0 = 5 then z.va else
  if z.va = true then (if a.f2.f0 = true then false else
    if a.f0 = 1 then !lessV a.f2 (solidV z.lo) && !lessV (solidV z.hi) a.f2 else if a.f0 = 2 then lessV (solidV z.lo) a.f2 else if a.f0 = 3 then !lessV (solidV z.hi) a.f2 else false) else false
theorem mcmp_ltB (an : Bool) (ai : Int) (as_ : ByteArray) (bn : Bool) (bi : Int) (bs : ByteArray) : decide (Thy.cmpV an ai as_ bn bi bs < 0) = Thy.less an ai as_ bn bi bs := by
  rw [Bool.eq_iff_iff, decide_eq_true_eq]; exact Thy.cmpV_lt
theorem mcmp_geB (an : Bool) (ai : Int) (as_ : ByteArray) (bn : Bool) (bi : Int) (bs : ByteArray) : decide (Thy.cmpV an ai as_ bn bi bs ≥ 0) = !Thy.less an ai as_ bn bi bs := by
  rw [← mcmp_ltB]
  by_cases h : Thy.cmpV an ai as_ bn bi bs < 0
  · rw [decide_eq_true h, decide_eq_false (by omega)]; rfl
  · rw [decide_eq_false h, decide_eq_true (by omega)]; rfl
theorem mcmp_leP (an : Bool) (ai : Int) (as_ : ByteArray) (bn : Bool) (bi : Int) (bs : ByteArray) : Thy.cmpV an ai as_ bn bi bs ≤ 0 ↔ Thy.less bn bi bs an ai as_ = false := by
  constructor
  · intro h
    cases hc : Thy.less bn bi bs an ai as_ with
    | false => rfl
    | true => have := Thy.cmpV_gt.2 hc; omega
  · intro h
    have : ¬ Thy.cmpV an ai as_ bn bi bs > 0 := fun hc => by rw [Thy.cmpV_gt.1 hc] at h; cases h
    omega
theorem zone_May.is (a : S38) (z : Zn) : zone_May.f 1 a.f0 a.f1 a.f2.f0 a.f2.f1 a.f2.f2 z.nu z.va z.lo.f0 z.lo.f1 z.lo.f2 z.hi.f0 z.hi.f1 z.hi.f2 = some (mayV a z) := by
  unfold zone_May.f mayV
  by_cases h0 : a.f0 = 0
  · simp [h0]
    try (cases z.nu <;> simp)
  by_cases h4 : a.f0 = 4
  · simp [h4]
  by_cases h5 : a.f0 = 5
  · simp [h5]
  simp only [h0, h4, h5, if_false]
  by_cases hv : z.va = true
  · simp only [hv, if_true, zone_May.j0]
    by_cases hm : a.f2.f0 = true
    · simp [hm]
    · simp only [hm, if_false, Bool.false_eq_true, zone_solid.f, kinds_Compare_c.f, Option.bind_some, mcmp_ltB, mcmp_geB, mcmp_leP, lessV, solidV]
      by_cases c1 : a.f0 = 1
      · simp only [c1, if_true]
        split
        · rename_i hc; rw [hc]; rfl
        · rename_i hc
          rw [Bool.not_eq_false] at hc
          rw [hc]; rfl
      · simp only [c1, if_false]
        split
        · rfl
        · split <;> rfl
  · simp [hv, zone_May.j0]
def zone_May_c.f (a0_0 : Int) (a0_1 : Int) (a0_2 : Bool) (a0_3 : Int) (a0_4 : ByteArray) (a1_0 : Bool) (a1_1 : Bool) (a1_2 : Bool) (a1_3 : Int) (a1_4 : ByteArray) (a1_5 : Bool) (a1_6 : Int) (a1_7 : ByteArray) : Option Bool := some (mayV ⟨a0_0, a0_1, ⟨a0_2, a0_3, a0_4⟩⟩ ⟨a1_0, a1_1, ⟨a1_2, a1_3, a1_4⟩, ⟨a1_5, a1_6, a1_7⟩⟩)
theorem zone_May_c.calls (a0_0 : Int) (a0_1 : Int) (a0_2 : Bool) (a0_3 : Int) (a0_4 : ByteArray) (a1_0 : Bool) (a1_1 : Bool) (a1_2 : Bool) (a1_3 : Int) (a1_4 : ByteArray) (a1_5 : Bool) (a1_6 : Int) (a1_7 : ByteArray) (r : Bool) (w : World) (h : zone_May_c.f a0_0 a0_1 a0_2 a0_3 a0_4 a1_0 a1_1 a1_2 a1_3 a1_4 a1_5 a1_6 a1_7 = some r) :
    Calls Try.prog 24 #[.agg #[.int .i64 a0_0, .int .i64 a0_1, .bool a0_2, .int .i64 a0_3, .string a0_4], .agg #[.bool a1_0, .bool a1_1, .bool a1_2, .int .i64 a1_3, .string a1_4, .bool a1_5, .int .i64 a1_6, .string a1_7]] w fun e w' => e = .returned (.bool r) ∧ Below w.heap.size w w' :=
  zone_May.calls 1 a0_0 a0_1 a0_2 a0_3 a0_4 a1_0 a1_1 a1_2 a1_3 a1_4 a1_5 a1_6 a1_7 r w ((zone_May.is ⟨a0_0, a0_1, ⟨a0_2, a0_3, a0_4⟩⟩ ⟨a1_0, a1_1, ⟨a1_2, a1_3, a1_4⟩, ⟨a1_5, a1_6, a1_7⟩⟩).trans h)


end Go.Proofs.Ytnfliommpdjlkaa.Pr
