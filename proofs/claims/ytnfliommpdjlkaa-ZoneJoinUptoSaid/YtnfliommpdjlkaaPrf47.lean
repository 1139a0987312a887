-- printed by xprint.py (this seat's own program, over the kit's print.py); not trusted: Lean checks it
import Derived.Test.YtnfliommpdjlkaaPr0
import Derived.Test.YtnfliommpdjlkaaPrf46
import Derived.Test.YtnfliommpdjlkaaPrf36
import Derived.Test.YtnfliommpdjlkaaThy
namespace Go.Proofs.Ytnfliommpdjlkaa.Pr
open Go.RowKit Go.Proofs.YtnfliommpdjlkaaW.PrintWords Go.Proofs.YtnfliommpdjlkaaW.PrintLast Go.Proofs.YtnfliommpdjlkaaW.PrintMore
attribute [local go_sem] max2_int min2_int max_two min_two max_three min_three max_four min_four   -- for this text's walks alone
set_option linter.unusedVariables false
set_option linter.unusedSimpArgs false

/-! ### tithebarnref11_add: function 47 -/
mutual
def tithebarnref11_add.j0 : Nat → Bool → Bool → Bool → Bool → Int → ByteArray → Bool → Int → ByteArray → Bool → Int → ByteArray → Option (Bool × Bool × Bool × Int × ByteArray × Bool × Int × ByteArray)
 | 0, _, _, _, _, _, _, _, _, _, _, _, _ => none
 | k + 1, x17, x208000, x208001, x208002, x208003, x208004, x208005, x208006, x208007, x209000, x209001, x209002 => if x17 = true then (tithebarnref11_add.j1 k x208000 x208001 x209000 x209001 x209002 x208005 x208006 x208007 x209000 x209001 x209002) else (tithebarnref11_add.j1 k x208000 x208001 x208002 x208003 x208004 x208005 x208006 x208007 x209000 x209001 x209002)
def tithebarnref11_add.j1 : Nat → Bool → Bool → Bool → Int → ByteArray → Bool → Int → ByteArray → Bool → Int → ByteArray → Option (Bool × Bool × Bool × Int × ByteArray × Bool × Int × ByteArray)
 | 0, _, _, _, _, _, _, _, _, _, _, _ => none
 | k + 1, x208000, x208001, x208002, x208003, x208004, x208005, x208006, x208007, x209000, x209001, x209002 => if x208001 = true then ((tithebarnref02_Ahead_c.f x208005 x208006 x208007 x209000 x209001 x209002).bind fun t211 => (tithebarnref11_add.j2 k t211 x208000 x208001 x208002 x208003 x208004 x208005 x208006 x208007 x209000 x209001 x209002)) else (tithebarnref11_add.j2 k true x208000 x208001 x208002 x208003 x208004 x208005 x208006 x208007 x209000 x209001 x209002)
def tithebarnref11_add.j2 : Nat → Bool → Bool → Bool → Bool → Int → ByteArray → Bool → Int → ByteArray → Bool → Int → ByteArray → Option (Bool × Bool × Bool × Int × ByteArray × Bool × Int × ByteArray)
 | 0, _, _, _, _, _, _, _, _, _, _, _, _ => none
 | k + 1, x28, x208000, x208001, x208002, x208003, x208004, x208005, x208006, x208007, x209000, x209001, x209002 => if x28 = true then (some (x208000, true, x208002, x208003, x208004, x209000, x209001, x209002)) else (some (x208000, true, x208002, x208003, x208004, x208005, x208006, x208007))
end
def tithebarnref11_add.f (k : Nat) (a0_0 : Bool) (a0_1 : Bool) (a0_2 : Bool) (a0_3 : Int) (a0_4 : ByteArray) (a0_5 : Bool) (a0_6 : Int) (a0_7 : ByteArray) (a1_0 : Bool) (a1_1 : Int) (a1_2 : ByteArray) : Option (Bool × Bool × Bool × Int × ByteArray × Bool × Int × ByteArray) := if a1_0 = true then (some (true, a0_1, a0_2, a0_3, a0_4, a0_5, a0_6, a0_7)) else (if a0_1 = true then ((tithebarnref02_Ahead_c.f a1_0 a1_1 a1_2 a0_2 a0_3 a0_4).bind fun t210 => (tithebarnref11_add.j0 k t210 a0_0 a0_1 a0_2 a0_3 a0_4 a0_5 a0_6 a0_7 a1_0 a1_1 a1_2)) else (tithebarnref11_add.j0 k true a0_0 a0_1 a0_2 a0_3 a0_4 a0_5 a0_6 a0_7 a1_0 a1_1 a1_2))
theorem tithebarnref11_add.mono_l : ∀ k, (∀ y0 y1 y2 y3 y4 y5 y6 y7 y8 y9 y10 y11, LeO (tithebarnref11_add.j0 k y0 y1 y2 y3 y4 y5 y6 y7 y8 y9 y10 y11) (tithebarnref11_add.j0 (k + 1) y0 y1 y2 y3 y4 y5 y6 y7 y8 y9 y10 y11)) ∧ (∀ y0 y1 y2 y3 y4 y5 y6 y7 y8 y9 y10, LeO (tithebarnref11_add.j1 k y0 y1 y2 y3 y4 y5 y6 y7 y8 y9 y10) (tithebarnref11_add.j1 (k + 1) y0 y1 y2 y3 y4 y5 y6 y7 y8 y9 y10)) ∧ (∀ y0 y1 y2 y3 y4 y5 y6 y7 y8 y9 y10 y11, LeO (tithebarnref11_add.j2 k y0 y1 y2 y3 y4 y5 y6 y7 y8 y9 y10 y11) (tithebarnref11_add.j2 (k + 1) y0 y1 y2 y3 y4 y5 y6 y7 y8 y9 y10 y11))
 | 0 => ⟨fun _ _ _ _ _ _ _ _ _ _ _ _ r h => by simp [tithebarnref11_add.j0] at h, fun _ _ _ _ _ _ _ _ _ _ _ r h => by simp [tithebarnref11_add.j1] at h, fun _ _ _ _ _ _ _ _ _ _ _ _ r h => by simp [tithebarnref11_add.j2] at h⟩
 | k + 1 => by
  obtain ⟨ih0, ih1, ih2⟩ := tithebarnref11_add.mono_l k
  refine ⟨?_, ?_, ?_⟩
  ·intro y0 y1 y2 y3 y4 y5 y6 y7 y8 y9 y10 y11
   unfold tithebarnref11_add.j0
   repeat' first
   | (with_reducible exact ih0 _ _ _ _ _ _ _ _ _ _ _ _)
   | (with_reducible exact ih1 _ _ _ _ _ _ _ _ _ _ _)
   | (with_reducible exact ih2 _ _ _ _ _ _ _ _ _ _ _ _)
   | (with_reducible exact LeO.refl _)
   | (with_reducible exact LeO.none _)
   | (with_reducible refine LeO.ite ?_ ?_)
   | (with_reducible refine LeO.bind ?_ (fun _ => ?_))
   | exact ih0 _ _ _ _ _ _ _ _ _ _ _ _
   | exact ih1 _ _ _ _ _ _ _ _ _ _ _
   | exact ih2 _ _ _ _ _ _ _ _ _ _ _ _
   | exact LeO.none _
   | refine LeO.ite ?_ ?_
   | refine LeO.bind ?_ (fun _ => ?_)
  ·intro y0 y1 y2 y3 y4 y5 y6 y7 y8 y9 y10
   unfold tithebarnref11_add.j1
   repeat' first
   | (with_reducible exact ih0 _ _ _ _ _ _ _ _ _ _ _ _)
   | (with_reducible exact ih1 _ _ _ _ _ _ _ _ _ _ _)
   | (with_reducible exact ih2 _ _ _ _ _ _ _ _ _ _ _ _)
   | (with_reducible exact LeO.refl _)
   | (with_reducible exact LeO.none _)
   | (with_reducible refine LeO.ite ?_ ?_)
   | (with_reducible refine LeO.bind ?_ (fun _ => ?_))
   | exact ih0 _ _ _ _ _ _ _ _ _ _ _ _
   | exact ih1 _ _ _ _ _ _ _ _ _ _ _
   | exact ih2 _ _ _ _ _ _ _ _ _ _ _ _
   | exact LeO.none _
   | refine LeO.ite ?_ ?_
   | refine LeO.bind ?_ (fun _ => ?_)
  ·intro y0 y1 y2 y3 y4 y5 y6 y7 y8 y9 y10 y11
   unfold tithebarnref11_add.j2
   repeat' first
   | (with_reducible exact ih0 _ _ _ _ _ _ _ _ _ _ _ _)
   | (with_reducible exact ih1 _ _ _ _ _ _ _ _ _ _ _)
   | (with_reducible exact ih2 _ _ _ _ _ _ _ _ _ _ _ _)
   | (with_reducible exact LeO.refl _)
   | (with_reducible exact LeO.none _)
   | (with_reducible refine LeO.ite ?_ ?_)
   | (with_reducible refine LeO.bind ?_ (fun _ => ?_))
   | exact ih0 _ _ _ _ _ _ _ _ _ _ _ _
   | exact ih1 _ _ _ _ _ _ _ _ _ _ _
   | exact ih2 _ _ _ _ _ _ _ _ _ _ _ _
   | exact LeO.none _
   | refine LeO.ite ?_ ?_
   | refine LeO.bind ?_ (fun _ => ?_)
theorem tithebarnref11_add.mono : ∀ a0 a1 a2 a3 a4 a5 a6 a7 a8 a9 a10 k, LeO (tithebarnref11_add.f k a0 a1 a2 a3 a4 a5 a6 a7 a8 a9 a10) (tithebarnref11_add.f (k + 1) a0 a1 a2 a3 a4 a5 a6 a7 a8 a9 a10) := by
 intro a0 a1 a2 a3 a4 a5 a6 a7 a8 a9 a10 k
 obtain ⟨ih0, ih1, ih2⟩ := tithebarnref11_add.mono_l k
 unfold tithebarnref11_add.f
 repeat' first
   | (with_reducible exact ih0 _ _ _ _ _ _ _ _ _ _ _ _)
   | (with_reducible exact ih1 _ _ _ _ _ _ _ _ _ _ _)
   | (with_reducible exact ih2 _ _ _ _ _ _ _ _ _ _ _ _)
   | (with_reducible exact LeO.refl _)
   | (with_reducible exact LeO.none _)
   | (with_reducible refine LeO.ite ?_ ?_)
   | (with_reducible refine LeO.bind ?_ (fun _ => ?_))
   | exact ih0 _ _ _ _ _ _ _ _ _ _ _ _
   | exact ih1 _ _ _ _ _ _ _ _ _ _ _
   | exact ih2 _ _ _ _ _ _ _ _ _ _ _ _
   | exact LeO.none _
   | refine LeO.ite ?_ ?_
   | refine LeO.bind ?_ (fun _ => ?_)
set_option maxHeartbeats 8000000 in
set_option maxRecDepth 100000 in
theorem tithebarnref11_add.calls (k : Nat) (a0_0 : Bool) (a0_1 : Bool) (a0_2 : Bool) (a0_3 : Int) (a0_4 : ByteArray) (a0_5 : Bool) (a0_6 : Int) (a0_7 : ByteArray) (a1_0 : Bool) (a1_1 : Int) (a1_2 : ByteArray) (r1 : Bool) (r2 : Bool) (r3 : Bool) (r4 : Int) (r5 : ByteArray) (r6 : Bool) (r7 : Int) (r8 : ByteArray) (w : World) (h : tithebarnref11_add.f k a0_0 a0_1 a0_2 a0_3 a0_4 a0_5 a0_6 a0_7 a1_0 a1_1 a1_2 = some (r1, r2, r3, r4, r5, r6, r7, r8)) :
  Calls Try.prog 47 #[.agg #[.bool a0_0, .bool a0_1, .bool a0_2, .int .i64 a0_3, .string a0_4, .bool a0_5, .int .i64 a0_6, .string a0_7], .agg #[.bool a1_0, .int .i64 a1_1, .string a1_2]] w fun e w' => e = .returned (.agg #[.bool r1, .bool r2, .bool r3, .int .i64 r4, .string r5, .bool r6, .int .i64 r7, .string r8]) ∧ Below w.heap.size w w' := by
 have hu41 := Try.underlying41
 have hu27 := Try.underlying27
 have HB := Aside0.mk (Below.refl w.heap.size w)
 have H : (if a1_0 = true then (some (true, a0_1, a0_2, a0_3, a0_4, a0_5, a0_6, a0_7)) else (if a0_1 = true then ((tithebarnref02_Ahead_c.f a1_0 a1_1 a1_2 a0_2 a0_3 a0_4).bind fun t210 => (tithebarnref11_add.j0 k t210 a0_0 a0_1 a0_2 a0_3 a0_4 a0_5 a0_6 a0_7 a1_0 a1_1 a1_2)) else (tithebarnref11_add.j0 k true a0_0 a0_1 a0_2 a0_3 a0_4 a0_5 a0_6 a0_7 a1_0 a1_1 a1_2))) = some (r1, r2, r3, r4, r5, r6, r7, r8) := h
 clear h
 by_cases c3 : a1_0 = true
 ·subst c3
  have H1 : (some (true, a0_1, a0_2, a0_3, a0_4, a0_5, a0_6, a0_7)) = some (r1, r2, r3, r4, r5, r6, r7, r8) := by rw [if_pos rfl] at H; exact H
  clear H
  have H := H1
  clear H1
  simp only [Option.some.injEq, Prod.mk.injEq] at H
  obtain ⟨rfl, rfl, rfl, rfl, rfl, rfl, rfl, rfl⟩ := H
  go_enter Try.func47, Try.ntmps47
  go_wp2_with (first | ((with_reducible refine gate_dst (N := 2) rfl ?_); refine box_event ?hg (N := 2) ?hd (cs := #[.bool a0_0, .bool a0_1, .bool a0_2, .int .i64 a0_3, .string a0_4, .bool a0_5, .int .i64 a0_6, .string a0_7]) (t := 41) ?hr ?_; (case hd => rfl); (case hg => rfl); (case hr => first | (go_simp; done) | (go_simp; rfl)); intro gb207 hg w4 hbox hb; have n0_ := Aside0.mk (below_step (by repeat (first | (with_reducible first | exact HB.out | apply below_alloc | apply pw_below_drewN | apply below_drew1) | exact HB.out)) hb); have n1_ := Aside0.mk (hbox); have n2_ := Aside0.mk ((by rw [hg]; exact (below_size (by repeat (first | (with_reducible first | exact HB.out | apply below_alloc | apply pw_below_drewN | apply below_drew1) | exact HB.out))) : w.heap.size ≤ gb207)); have n3_ := Aside0.mk ((by rw [hg]; exact (below_size (by repeat (first | (with_reducible first | exact HB.out | apply below_alloc | apply pw_below_drewN | apply below_drew1) | exact HB.out))) : w.heap.size ≤ gb207)); clear HB; have HB := n0_; have BK207 := n1_; have GW207 := n2_; have GE207 := n3_; clear n0_ n1_ n2_ n3_; clear hb hbox hg) | ((with_reducible refine gate_dst (N := 3) rfl ?_); refine box_event ?hg (N := 3) ?hd (cs := #[.bool true, .int .i64 a1_1, .string a1_2]) (t := 27) ?hr ?_; (case hd => rfl); (case hg => rfl); (case hr => first | (go_simp; done) | (go_simp; rfl)); intro gb208 hg w5 hbox hb; have n0_ := Aside0.mk (blk_below (g := gb207) (o := .cells #[.bool a0_0, .bool a0_1, .bool a0_2, .int .i64 a0_3, .string a0_4, .bool a0_5, .int .i64 a0_6, .string a0_7] 41 (0, 0)) (by (with_reducible repeat (first | refine blk_drewN ?_ _ | refine blk_drew ?_ | refine blk_alloc ?_ _)); exact BK207.out) hb); have n1_ := Aside0.mk (below_step (by repeat (first | (with_reducible first | exact HB.out | apply below_alloc | apply pw_below_drewN | apply below_drew1 | refine below_set ?_ GE207.out) | exact HB.out)) hb); have n2_ := Aside0.mk (hbox); have n3_ := Aside0.mk ((by rw [hg]; exact (below_size (by repeat (first | (with_reducible first | exact HB.out | apply below_alloc | apply pw_below_drewN | apply below_drew1 | refine below_set ?_ GE207.out) | exact HB.out))) : w.heap.size ≤ gb208)); have n4_ := Aside0.mk ((by rw [hg]; exact (below_size (by repeat (first | (with_reducible first | exact HB.out | apply below_alloc | apply pw_below_drewN | apply below_drew1 | refine below_set ?_ GE207.out) | exact HB.out))) : w.heap.size ≤ gb208)); have n5_ := Aside0.mk ((by rw [hg]; exact Nat.ne_of_lt (blk_lt (g := gb207) (o := .cells #[.bool a0_0, .bool a0_1, .bool a0_2, .int .i64 a0_3, .string a0_4, .bool a0_5, .int .i64 a0_6, .string a0_7] 41 (0, 0)) (by (with_reducible repeat (first | refine blk_drewN ?_ _ | refine blk_drew ?_ | refine blk_alloc ?_ _)); exact BK207.out)) : gb207 ≠ gb208)); have n6_ := Aside0.mk ((by rw [hg]; exact Nat.ne_of_gt (blk_lt (g := gb207) (o := .cells #[.bool a0_0, .bool a0_1, .bool a0_2, .int .i64 a0_3, .string a0_4, .bool a0_5, .int .i64 a0_6, .string a0_7] 41 (0, 0)) (by (with_reducible repeat (first | refine blk_drewN ?_ _ | refine blk_drew ?_ | refine blk_alloc ?_ _)); exact BK207.out)) : gb208 ≠ gb207)); clear BK207; clear HB; have BK207 := n0_; have HB := n1_; have BK208 := n2_; have GW208 := n3_; have GE208 := n4_; have NB207_208 := n5_; have NB208_207 := n6_; clear n0_ n1_ n2_ n3_ n4_ n5_ n6_; clear hb hbox hg) | ((with_reducible refine gate_dst (N := 4) rfl ?_); refine box_event ?hg (N := 4) ?hd (cs := #[.bool false, .bool false, .bool false, .int .i64 0, .string (⟨#[]⟩ : ByteArray), .bool false, .int .i64 0, .string (⟨#[]⟩ : ByteArray)]) (t := 41) ?hr ?_; (case hd => rfl); (case hg => rfl); (case hr => first | (go_simp; done) | (go_simp; rfl)); intro gb209 hg w6 hbox hb; have n0_ := Aside0.mk (blk_below (g := gb207) (o := .cells #[.bool a0_0, .bool a0_1, .bool a0_2, .int .i64 a0_3, .string a0_4, .bool a0_5, .int .i64 a0_6, .string a0_7] 41 (0, 0)) (by (with_reducible repeat (first | refine blk_drewN ?_ _ | refine blk_drew ?_ | refine blk_alloc ?_ _)); exact BK207.out) hb); have n1_ := Aside0.mk (blk_below (g := gb208) (o := .cells #[.bool true, .int .i64 a1_1, .string a1_2] 27 (0, 0)) (by (with_reducible repeat (first | refine blk_drewN ?_ _ | refine blk_drew ?_ | refine blk_alloc ?_ _)); exact BK208.out) hb); have n2_ := Aside0.mk (below_step (by repeat (first | (with_reducible first | exact HB.out | apply below_alloc | apply pw_below_drewN | apply below_drew1 | refine below_set ?_ GE207.out | refine below_set ?_ GE208.out) | exact HB.out)) hb); have n3_ := Aside0.mk (hbox); have n4_ := Aside0.mk ((by rw [hg]; exact (below_size (by repeat (first | (with_reducible first | exact HB.out | apply below_alloc | apply pw_below_drewN | apply below_drew1 | refine below_set ?_ GE207.out | refine below_set ?_ GE208.out) | exact HB.out))) : w.heap.size ≤ gb209)); have n5_ := Aside0.mk ((by rw [hg]; exact (below_size (by repeat (first | (with_reducible first | exact HB.out | apply below_alloc | apply pw_below_drewN | apply below_drew1 | refine below_set ?_ GE207.out | refine below_set ?_ GE208.out) | exact HB.out))) : w.heap.size ≤ gb209)); have n6_ := Aside0.mk ((by rw [hg]; exact Nat.ne_of_lt (blk_lt (g := gb207) (o := .cells #[.bool a0_0, .bool a0_1, .bool a0_2, .int .i64 a0_3, .string a0_4, .bool a0_5, .int .i64 a0_6, .string a0_7] 41 (0, 0)) (by (with_reducible repeat (first | refine blk_drewN ?_ _ | refine blk_drew ?_ | refine blk_alloc ?_ _)); exact BK207.out)) : gb207 ≠ gb209)); have n7_ := Aside0.mk ((by rw [hg]; exact Nat.ne_of_gt (blk_lt (g := gb207) (o := .cells #[.bool a0_0, .bool a0_1, .bool a0_2, .int .i64 a0_3, .string a0_4, .bool a0_5, .int .i64 a0_6, .string a0_7] 41 (0, 0)) (by (with_reducible repeat (first | refine blk_drewN ?_ _ | refine blk_drew ?_ | refine blk_alloc ?_ _)); exact BK207.out)) : gb209 ≠ gb207)); have n8_ := Aside0.mk ((by rw [hg]; exact Nat.ne_of_lt (blk_lt (g := gb208) (o := .cells #[.bool true, .int .i64 a1_1, .string a1_2] 27 (0, 0)) (by (with_reducible repeat (first | refine blk_drewN ?_ _ | refine blk_drew ?_ | refine blk_alloc ?_ _)); exact BK208.out)) : gb208 ≠ gb209)); have n9_ := Aside0.mk ((by rw [hg]; exact Nat.ne_of_gt (blk_lt (g := gb208) (o := .cells #[.bool true, .int .i64 a1_1, .string a1_2] 27 (0, 0)) (by (with_reducible repeat (first | refine blk_drewN ?_ _ | refine blk_drew ?_ | refine blk_alloc ?_ _)); exact BK208.out)) : gb209 ≠ gb208)); clear BK207; clear BK208; clear HB; have BK207 := n0_; have BK208 := n1_; have HB := n2_; have BK209 := n3_; have GW209 := n4_; have GE209 := n5_; have NB207_209 := n6_; have NB209_207 := n7_; have NB208_209 := n8_; have NB209_208 := n9_; clear n0_ n1_ n2_ n3_ n4_ n5_ n6_ n7_ n8_ n9_; clear hb hbox hg; have hnb7 := NB208_207.out; have hnc7 := NB207_208.out; have hnb8 := NB208_209.out; have hnc8 := NB209_208.out; have hcz9_0 : w6.cell? ⟨gb208, 0, none⟩ = some (.bool true) := (blk_cell BK208.out 0).trans rfl; have hcz9_1 : w6.cell? ⟨gb208, 1, none⟩ = some (.int .i64 a1_1) := (blk_cell BK208.out 1).trans rfl; have hcz9_2 : w6.cell? ⟨gb208, 2, none⟩ = some (.string a1_2) := (blk_cell BK208.out 2).trans rfl; have hfz9_0 := blk_frozen BK208.out 0; have hfz9_1 := blk_frozen BK208.out 1; have hfz9_2 := blk_frozen BK208.out 2; have hnb10 := NB207_209.out; have hnc10 := NB209_207.out; have hcz11_0 : w6.cell? ⟨gb207, 0, none⟩ = some (.bool a0_0) := (blk_cell BK207.out 0).trans rfl; have hcz11_1 : w6.cell? ⟨gb207, 1, none⟩ = some (.bool a0_1) := (blk_cell BK207.out 1).trans rfl; have hcz11_2 : w6.cell? ⟨gb207, 2, none⟩ = some (.bool a0_2) := (blk_cell BK207.out 2).trans rfl; have hcz11_3 : w6.cell? ⟨gb207, 3, none⟩ = some (.int .i64 a0_3) := (blk_cell BK207.out 3).trans rfl; have hcz11_4 : w6.cell? ⟨gb207, 4, none⟩ = some (.string a0_4) := (blk_cell BK207.out 4).trans rfl; have hcz11_5 : w6.cell? ⟨gb207, 5, none⟩ = some (.bool a0_5) := (blk_cell BK207.out 5).trans rfl; have hcz11_6 : w6.cell? ⟨gb207, 6, none⟩ = some (.int .i64 a0_6) := (blk_cell BK207.out 6).trans rfl; have hcz11_7 : w6.cell? ⟨gb207, 7, none⟩ = some (.string a0_7) := (blk_cell BK207.out 7).trans rfl; have hfz11_0 := blk_frozen BK207.out 0; have hfz11_1 := blk_frozen BK207.out 1; have hfz11_2 := blk_frozen BK207.out 2; have hfz11_3 := blk_frozen BK207.out 3; have hfz11_4 := blk_frozen BK207.out 4; have hfz11_5 := blk_frozen BK207.out 5; have hfz11_6 := blk_frozen BK207.out 6; have hfz11_7 := blk_frozen BK207.out 7; have hcz12_0 : w6.cell? ⟨gb209, 0, none⟩ = some (.bool false) := (blk_cell BK209.out 0).trans rfl; have hcz12_1 : w6.cell? ⟨gb209, 1, none⟩ = some (.bool false) := (blk_cell BK209.out 1).trans rfl; have hcz12_2 : w6.cell? ⟨gb209, 2, none⟩ = some (.bool false) := (blk_cell BK209.out 2).trans rfl; have hcz12_3 : w6.cell? ⟨gb209, 3, none⟩ = some (.int .i64 0) := (blk_cell BK209.out 3).trans rfl; have hcz12_4 : w6.cell? ⟨gb209, 4, none⟩ = some (.string (⟨#[]⟩ : ByteArray)) := (blk_cell BK209.out 4).trans rfl; have hcz12_5 : w6.cell? ⟨gb209, 5, none⟩ = some (.bool false) := (blk_cell BK209.out 5).trans rfl; have hcz12_6 : w6.cell? ⟨gb209, 6, none⟩ = some (.int .i64 0) := (blk_cell BK209.out 6).trans rfl; have hcz12_7 : w6.cell? ⟨gb209, 7, none⟩ = some (.string (⟨#[]⟩ : ByteArray)) := (blk_cell BK209.out 7).trans rfl; have hfz12_0 := blk_frozen BK209.out 0; have hfz12_1 := blk_frozen BK209.out 1; have hfz12_2 := blk_frozen BK209.out 2; have hfz12_3 := blk_frozen BK209.out 3; have hfz12_4 := blk_frozen BK209.out 4; have hfz12_5 := blk_frozen BK209.out 5; have hfz12_6 := blk_frozen BK209.out 6; have hfz12_7 := blk_frozen BK209.out 7))
  refine bodyPost_ret (results_cell_row rfl _ _ gb209 41 #[.bool true, .bool a0_1, .bool a0_2, .int .i64 a0_3, .string a0_4, .bool a0_5, .int .i64 a0_6, .string a0_7] (0, 0) _ rfl (by refine blk_put (cs := #[.bool true, .bool a0_1, .bool a0_2, .int .i64 a0_3, .string a0_4, .bool a0_5, .int .i64 a0_6, .string (⟨#[]⟩ : ByteArray)]) ?_ 7 _ rfl; refine blk_put (cs := #[.bool true, .bool a0_1, .bool a0_2, .int .i64 a0_3, .string a0_4, .bool a0_5, .int .i64 0, .string (⟨#[]⟩ : ByteArray)]) ?_ 6 _ rfl; refine blk_put (cs := #[.bool true, .bool a0_1, .bool a0_2, .int .i64 a0_3, .string a0_4, .bool false, .int .i64 0, .string (⟨#[]⟩ : ByteArray)]) ?_ 5 _ rfl; refine blk_put (cs := #[.bool true, .bool a0_1, .bool a0_2, .int .i64 a0_3, .string (⟨#[]⟩ : ByteArray), .bool false, .int .i64 0, .string (⟨#[]⟩ : ByteArray)]) ?_ 4 _ rfl; refine blk_put (cs := #[.bool true, .bool a0_1, .bool a0_2, .int .i64 0, .string (⟨#[]⟩ : ByteArray), .bool false, .int .i64 0, .string (⟨#[]⟩ : ByteArray)]) ?_ 3 _ rfl; refine blk_put (cs := #[.bool true, .bool a0_1, .bool false, .int .i64 0, .string (⟨#[]⟩ : ByteArray), .bool false, .int .i64 0, .string (⟨#[]⟩ : ByteArray)]) ?_ 2 _ rfl; refine blk_put (cs := #[.bool true, .bool false, .bool false, .int .i64 0, .string (⟨#[]⟩ : ByteArray), .bool false, .int .i64 0, .string (⟨#[]⟩ : ByteArray)]) ?_ 1 _ rfl; refine blk_put (cs := #[.bool false, .bool false, .bool false, .int .i64 0, .string (⟨#[]⟩ : ByteArray), .bool false, .int .i64 0, .string (⟨#[]⟩ : ByteArray)]) ?_ 0 _ rfl; refine blk_far ?_ NB209_207.out _; (with_reducible repeat (first | refine blk_drewN ?_ _ | refine blk_drew ?_ | refine blk_alloc ?_ _)); exact BK209.out) Try.underlying41 rfl (by kernel_rfl)) rfl ?_
  exact ⟨by first | rfl | (simp [errW_none, errW_some] <;> rfl) | (simp [*, errW_none, errW_some] <;> rfl), by repeat (first | (with_reducible first | exact HB.out | apply below_alloc | apply pw_below_drewN | apply below_drew1 | refine below_set ?_ GE207.out | refine below_set ?_ GE208.out | refine below_set ?_ GE209.out) | exact HB.out)⟩
 ·replace c3 := Bool.eq_false_iff.mpr c3
  subst c3
  have H1 : (if a0_1 = true then ((tithebarnref02_Ahead_c.f false a1_1 a1_2 a0_2 a0_3 a0_4).bind fun t210 => (tithebarnref11_add.j0 k t210 a0_0 a0_1 a0_2 a0_3 a0_4 a0_5 a0_6 a0_7 false a1_1 a1_2)) else (tithebarnref11_add.j0 k true a0_0 a0_1 a0_2 a0_3 a0_4 a0_5 a0_6 a0_7 false a1_1 a1_2)) = some (r1, r2, r3, r4, r5, r6, r7, r8) := by rw [if_neg (show ¬ (false = true) by decide)] at H; exact H
  clear H
  have H := H1
  clear H1
  have HC13 := Aside0.mk H
  clear H
  go_enter Try.func47, Try.ntmps47
  go_upto_region 4 with (first | ((with_reducible refine gate_dst (N := 2) rfl ?_); refine box_event ?hg (N := 2) ?hd (cs := #[.bool a0_0, .bool a0_1, .bool a0_2, .int .i64 a0_3, .string a0_4, .bool a0_5, .int .i64 a0_6, .string a0_7]) (t := 41) ?hr ?_; (case hd => rfl); (case hg => rfl); (case hr => first | (go_simp; done) | (go_simp; rfl)); intro gb207 hg w14 hbox hb; have n0_ := Aside0.mk (below_step (by repeat (first | (with_reducible first | exact HB.out | apply below_alloc | apply pw_below_drewN | apply below_drew1) | exact HB.out)) hb); have n1_ := Aside0.mk (hbox); have n2_ := Aside0.mk ((by rw [hg]; exact (below_size (by repeat (first | (with_reducible first | exact HB.out | apply below_alloc | apply pw_below_drewN | apply below_drew1) | exact HB.out))) : w.heap.size ≤ gb207)); have n3_ := Aside0.mk ((by rw [hg]; exact (below_size (by repeat (first | (with_reducible first | exact HB.out | apply below_alloc | apply pw_below_drewN | apply below_drew1) | exact HB.out))) : w.heap.size ≤ gb207)); clear HB; have HB := n0_; have BK207 := n1_; have GW207 := n2_; have GE207 := n3_; clear n0_ n1_ n2_ n3_; clear hb hbox hg) | ((with_reducible refine gate_dst (N := 3) rfl ?_); refine box_event ?hg (N := 3) ?hd (cs := #[.bool false, .int .i64 a1_1, .string a1_2]) (t := 27) ?hr ?_; (case hd => rfl); (case hg => rfl); (case hr => first | (go_simp; done) | (go_simp; rfl)); intro gb208 hg w15 hbox hb; have n0_ := Aside0.mk (blk_below (g := gb207) (o := .cells #[.bool a0_0, .bool a0_1, .bool a0_2, .int .i64 a0_3, .string a0_4, .bool a0_5, .int .i64 a0_6, .string a0_7] 41 (0, 0)) (by (with_reducible repeat (first | refine blk_drewN ?_ _ | refine blk_drew ?_ | refine blk_alloc ?_ _)); exact BK207.out) hb); have n1_ := Aside0.mk (below_step (by repeat (first | (with_reducible first | exact HB.out | apply below_alloc | apply pw_below_drewN | apply below_drew1 | refine below_set ?_ GE207.out) | exact HB.out)) hb); have n2_ := Aside0.mk (hbox); have n3_ := Aside0.mk ((by rw [hg]; exact (below_size (by repeat (first | (with_reducible first | exact HB.out | apply below_alloc | apply pw_below_drewN | apply below_drew1 | refine below_set ?_ GE207.out) | exact HB.out))) : w.heap.size ≤ gb208)); have n4_ := Aside0.mk ((by rw [hg]; exact (below_size (by repeat (first | (with_reducible first | exact HB.out | apply below_alloc | apply pw_below_drewN | apply below_drew1 | refine below_set ?_ GE207.out) | exact HB.out))) : w.heap.size ≤ gb208)); have n5_ := Aside0.mk ((by rw [hg]; exact Nat.ne_of_lt (blk_lt (g := gb207) (o := .cells #[.bool a0_0, .bool a0_1, .bool a0_2, .int .i64 a0_3, .string a0_4, .bool a0_5, .int .i64 a0_6, .string a0_7] 41 (0, 0)) (by (with_reducible repeat (first | refine blk_drewN ?_ _ | refine blk_drew ?_ | refine blk_alloc ?_ _)); exact BK207.out)) : gb207 ≠ gb208)); have n6_ := Aside0.mk ((by rw [hg]; exact Nat.ne_of_gt (blk_lt (g := gb207) (o := .cells #[.bool a0_0, .bool a0_1, .bool a0_2, .int .i64 a0_3, .string a0_4, .bool a0_5, .int .i64 a0_6, .string a0_7] 41 (0, 0)) (by (with_reducible repeat (first | refine blk_drewN ?_ _ | refine blk_drew ?_ | refine blk_alloc ?_ _)); exact BK207.out)) : gb208 ≠ gb207)); clear BK207; clear HB; have BK207 := n0_; have HB := n1_; have BK208 := n2_; have GW208 := n3_; have GE208 := n4_; have NB207_208 := n5_; have NB208_207 := n6_; clear n0_ n1_ n2_ n3_ n4_ n5_ n6_; clear hb hbox hg) | ((with_reducible refine gate_dst (N := 4) rfl ?_); refine box_event ?hg (N := 4) ?hd (cs := #[.bool false, .bool false, .bool false, .int .i64 0, .string (⟨#[]⟩ : ByteArray), .bool false, .int .i64 0, .string (⟨#[]⟩ : ByteArray)]) (t := 41) ?hr ?_; (case hd => rfl); (case hg => rfl); (case hr => first | (go_simp; done) | (go_simp; rfl)); intro gb209 hg w16 hbox hb; have n0_ := Aside0.mk (blk_below (g := gb207) (o := .cells #[.bool a0_0, .bool a0_1, .bool a0_2, .int .i64 a0_3, .string a0_4, .bool a0_5, .int .i64 a0_6, .string a0_7] 41 (0, 0)) (by (with_reducible repeat (first | refine blk_drewN ?_ _ | refine blk_drew ?_ | refine blk_alloc ?_ _)); exact BK207.out) hb); have n1_ := Aside0.mk (blk_below (g := gb208) (o := .cells #[.bool false, .int .i64 a1_1, .string a1_2] 27 (0, 0)) (by (with_reducible repeat (first | refine blk_drewN ?_ _ | refine blk_drew ?_ | refine blk_alloc ?_ _)); exact BK208.out) hb); have n2_ := Aside0.mk (below_step (by repeat (first | (with_reducible first | exact HB.out | apply below_alloc | apply pw_below_drewN | apply below_drew1 | refine below_set ?_ GE207.out | refine below_set ?_ GE208.out) | exact HB.out)) hb); have n3_ := Aside0.mk (hbox); have n4_ := Aside0.mk ((by rw [hg]; exact (below_size (by repeat (first | (with_reducible first | exact HB.out | apply below_alloc | apply pw_below_drewN | apply below_drew1 | refine below_set ?_ GE207.out | refine below_set ?_ GE208.out) | exact HB.out))) : w.heap.size ≤ gb209)); have n5_ := Aside0.mk ((by rw [hg]; exact (below_size (by repeat (first | (with_reducible first | exact HB.out | apply below_alloc | apply pw_below_drewN | apply below_drew1 | refine below_set ?_ GE207.out | refine below_set ?_ GE208.out) | exact HB.out))) : w.heap.size ≤ gb209)); have n6_ := Aside0.mk ((by rw [hg]; exact Nat.ne_of_lt (blk_lt (g := gb207) (o := .cells #[.bool a0_0, .bool a0_1, .bool a0_2, .int .i64 a0_3, .string a0_4, .bool a0_5, .int .i64 a0_6, .string a0_7] 41 (0, 0)) (by (with_reducible repeat (first | refine blk_drewN ?_ _ | refine blk_drew ?_ | refine blk_alloc ?_ _)); exact BK207.out)) : gb207 ≠ gb209)); have n7_ := Aside0.mk ((by rw [hg]; exact Nat.ne_of_gt (blk_lt (g := gb207) (o := .cells #[.bool a0_0, .bool a0_1, .bool a0_2, .int .i64 a0_3, .string a0_4, .bool a0_5, .int .i64 a0_6, .string a0_7] 41 (0, 0)) (by (with_reducible repeat (first | refine blk_drewN ?_ _ | refine blk_drew ?_ | refine blk_alloc ?_ _)); exact BK207.out)) : gb209 ≠ gb207)); have n8_ := Aside0.mk ((by rw [hg]; exact Nat.ne_of_lt (blk_lt (g := gb208) (o := .cells #[.bool false, .int .i64 a1_1, .string a1_2] 27 (0, 0)) (by (with_reducible repeat (first | refine blk_drewN ?_ _ | refine blk_drew ?_ | refine blk_alloc ?_ _)); exact BK208.out)) : gb208 ≠ gb209)); have n9_ := Aside0.mk ((by rw [hg]; exact Nat.ne_of_gt (blk_lt (g := gb208) (o := .cells #[.bool false, .int .i64 a1_1, .string a1_2] 27 (0, 0)) (by (with_reducible repeat (first | refine blk_drewN ?_ _ | refine blk_drew ?_ | refine blk_alloc ?_ _)); exact BK208.out)) : gb209 ≠ gb208)); clear BK207; clear BK208; clear HB; have BK207 := n0_; have BK208 := n1_; have HB := n2_; have BK209 := n3_; have GW209 := n4_; have GE209 := n5_; have NB207_209 := n6_; have NB209_207 := n7_; have NB208_209 := n8_; have NB209_208 := n9_; clear n0_ n1_ n2_ n3_ n4_ n5_ n6_ n7_ n8_ n9_; clear hb hbox hg; have hnb17 := NB208_207.out; have hnc17 := NB207_208.out; have hnb18 := NB208_209.out; have hnc18 := NB209_208.out; have hcz19_0 : w16.cell? ⟨gb208, 0, none⟩ = some (.bool false) := (blk_cell BK208.out 0).trans rfl; have hcz19_1 : w16.cell? ⟨gb208, 1, none⟩ = some (.int .i64 a1_1) := (blk_cell BK208.out 1).trans rfl; have hcz19_2 : w16.cell? ⟨gb208, 2, none⟩ = some (.string a1_2) := (blk_cell BK208.out 2).trans rfl; have hfz19_0 := blk_frozen BK208.out 0; have hfz19_1 := blk_frozen BK208.out 1; have hfz19_2 := blk_frozen BK208.out 2))
  (try simp only [Act.put, List.setIfInBounds_toArray, List.set_cons_zero, List.set_cons_succ])
  go_cut [17] (fun v17 wc => ∃ (kq : Nat) (x17_12 : Bool), v17 = .bool x17_12 ∧ Aside0 (tithebarnref11_add.j0 kq x17_12 a0_0 a0_1 a0_2 a0_3 a0_4 a0_5 a0_6 a0_7 false a1_1 a1_2 = some (r1, r2, r3, r4, r5, r6, r7, r8)) ∧ Aside0 (kq ≤ k) ∧ Aside0 (wc.heap[gb207]? = some (.cells #[.bool a0_0, .bool a0_1, .bool a0_2, .int .i64 a0_3, .string a0_4, .bool a0_5, .int .i64 a0_6, .string a0_7] 41 (0, 0))) ∧ Aside0 (wc.heap[gb208]? = some (.cells #[.bool false, .int .i64 a1_1, .string a1_2] 27 (0, 0))) ∧ Aside0 (wc.heap[gb209]? = some (.cells #[.bool false, .bool false, .bool false, .int .i64 0, .string (⟨#[]⟩ : ByteArray), .bool false, .int .i64 0, .string (⟨#[]⟩ : ByteArray)] 41 (0, 0))) ∧ Aside0 (Below w.heap.size w wc))
  case first =>
   have H := HC13.out
   clear HC13
   by_cases c20 : a0_1 = true
   ·subst c20
    have H1 : ((tithebarnref02_Ahead_c.f false a1_1 a1_2 a0_2 a0_3 a0_4).bind fun t210 => (tithebarnref11_add.j0 k t210 a0_0 true a0_2 a0_3 a0_4 a0_5 a0_6 a0_7 false a1_1 a1_2)) = some (r1, r2, r3, r4, r5, r6, r7, r8) := by rw [if_pos rfl] at H; exact H
    clear H
    have H := H1
    clear H1
    replace H := Option.bind_eq_some_iff.mp H
    obtain ⟨t210, A210, H⟩ := H
    replace H : (tithebarnref11_add.j0 k t210 a0_0 true a0_2 a0_3 a0_4 a0_5 a0_6 a0_7 false a1_1 a1_2) = some (r1, r2, r3, r4, r5, r6, r7, r8) := H
    have A21 := Aside0.mk A210
    clear A210
    have H' := Aside0.mk H
    clear H
    have hnb22 := NB207_208.out
    have hnc22 := NB208_207.out
    have hnb23 := NB207_209.out
    have hnc23 := NB209_207.out
    have hcz24_0 : w16.cell? ⟨gb207, 0, none⟩ = some (.bool a0_0) := (blk_cell BK207.out 0).trans rfl
    have hcz24_1 : w16.cell? ⟨gb207, 1, none⟩ = some (.bool true) := (blk_cell BK207.out 1).trans rfl
    have hcz24_2 : w16.cell? ⟨gb207, 2, none⟩ = some (.bool a0_2) := (blk_cell BK207.out 2).trans rfl
    have hcz24_3 : w16.cell? ⟨gb207, 3, none⟩ = some (.int .i64 a0_3) := (blk_cell BK207.out 3).trans rfl
    have hcz24_4 : w16.cell? ⟨gb207, 4, none⟩ = some (.string a0_4) := (blk_cell BK207.out 4).trans rfl
    have hcz24_5 : w16.cell? ⟨gb207, 5, none⟩ = some (.bool a0_5) := (blk_cell BK207.out 5).trans rfl
    have hcz24_6 : w16.cell? ⟨gb207, 6, none⟩ = some (.int .i64 a0_6) := (blk_cell BK207.out 6).trans rfl
    have hcz24_7 : w16.cell? ⟨gb207, 7, none⟩ = some (.string a0_7) := (blk_cell BK207.out 7).trans rfl
    have hfz24_0 := blk_frozen BK207.out 0
    have hfz24_1 := blk_frozen BK207.out 1
    have hfz24_2 := blk_frozen BK207.out 2
    have hfz24_3 := blk_frozen BK207.out 3
    have hfz24_4 := blk_frozen BK207.out 4
    have hfz24_5 := blk_frozen BK207.out 5
    have hfz24_6 := blk_frozen BK207.out 6
    have hfz24_7 := blk_frozen BK207.out 7
    have hnb25 := NB208_209.out
    have hnc25 := NB209_208.out
    have hcz26_0 : w16.cell? ⟨gb208, 0, none⟩ = some (.bool false) := (blk_cell BK208.out 0).trans rfl
    have hcz26_1 : w16.cell? ⟨gb208, 1, none⟩ = some (.int .i64 a1_1) := (blk_cell BK208.out 1).trans rfl
    have hcz26_2 : w16.cell? ⟨gb208, 2, none⟩ = some (.string a1_2) := (blk_cell BK208.out 2).trans rfl
    have hfz26_0 := blk_frozen BK208.out 0
    have hfz26_1 := blk_frozen BK208.out 1
    have hfz26_2 := blk_frozen BK208.out 2
    go_wp2_with (first | (go_at_call 36; (with_reducible refine (tithebarnref02_Ahead_c.calls false a1_1 a1_2 a0_2 a0_3 a0_4 t210 _ A21.out).mono ?_); rintro e w27 ⟨rfl, hb⟩; have n0_ := Aside0.mk (blk_below (g := gb207) (o := .cells #[.bool a0_0, .bool true, .bool a0_2, .int .i64 a0_3, .string a0_4, .bool a0_5, .int .i64 a0_6, .string a0_7] 41 (0, 0)) (by (with_reducible repeat (first | refine blk_drewN ?_ _ | refine blk_drew ?_ | refine blk_alloc ?_ _)); exact BK207.out) hb); have n1_ := Aside0.mk (blk_below (g := gb208) (o := .cells #[.bool false, .int .i64 a1_1, .string a1_2] 27 (0, 0)) (by (with_reducible repeat (first | refine blk_drewN ?_ _ | refine blk_drew ?_ | refine blk_alloc ?_ _)); exact BK208.out) hb); have n2_ := Aside0.mk (blk_below (g := gb209) (o := .cells #[.bool false, .bool false, .bool false, .int .i64 0, .string (⟨#[]⟩ : ByteArray), .bool false, .int .i64 0, .string (⟨#[]⟩ : ByteArray)] 41 (0, 0)) (by (with_reducible repeat (first | refine blk_drewN ?_ _ | refine blk_drew ?_ | refine blk_alloc ?_ _)); exact BK209.out) hb); have n3_ := Aside0.mk (below_step (by repeat (first | (with_reducible first | exact HB.out | apply below_alloc | apply pw_below_drewN | apply below_drew1 | refine below_set ?_ GE207.out | refine below_set ?_ GE208.out | refine below_set ?_ GE209.out) | exact HB.out)) hb); clear BK207; clear BK208; clear BK209; clear HB; have BK207 := n0_; have BK208 := n1_; have BK209 := n2_; have HB := n3_; clear n0_ n1_ n2_ n3_; (try clear hb); (try clear hb2); (try clear hk); (try clear hi)))
    go_meet
    case rel => exact ⟨_, (t210), (by first | rfl | (simp; done) | (simp [*]; done)), H', ⟨by first | omega | exact Nat.le_refl _⟩, ⟨by (with_reducible repeat (first | refine blk_drewN ?_ _ | refine blk_drew ?_ | refine blk_alloc ?_ _)); exact BK207.out⟩, ⟨by (with_reducible repeat (first | refine blk_drewN ?_ _ | refine blk_drew ?_ | refine blk_alloc ?_ _)); exact BK208.out⟩, ⟨by (with_reducible repeat (first | refine blk_drewN ?_ _ | refine blk_drew ?_ | refine blk_alloc ?_ _)); exact BK209.out⟩, ⟨by repeat (first | (with_reducible first | exact HB.out | apply below_alloc | apply pw_below_drewN | apply below_drew1 | refine below_set ?_ GE207.out | refine below_set ?_ GE208.out | refine below_set ?_ GE209.out) | exact HB.out)⟩⟩
   ·replace c20 := Bool.eq_false_iff.mpr c20
    subst c20
    have H1 : (tithebarnref11_add.j0 k true a0_0 false a0_2 a0_3 a0_4 a0_5 a0_6 a0_7 false a1_1 a1_2) = some (r1, r2, r3, r4, r5, r6, r7, r8) := by rw [if_neg (show ¬ (false = true) by decide)] at H; exact H
    clear H
    have H := H1
    clear H1
    have H' := Aside0.mk H
    clear H
    have hnb28 := NB207_208.out
    have hnc28 := NB208_207.out
    have hnb29 := NB207_209.out
    have hnc29 := NB209_207.out
    have hcz30_0 : w16.cell? ⟨gb207, 0, none⟩ = some (.bool a0_0) := (blk_cell BK207.out 0).trans rfl
    have hcz30_1 : w16.cell? ⟨gb207, 1, none⟩ = some (.bool false) := (blk_cell BK207.out 1).trans rfl
    have hcz30_2 : w16.cell? ⟨gb207, 2, none⟩ = some (.bool a0_2) := (blk_cell BK207.out 2).trans rfl
    have hcz30_3 : w16.cell? ⟨gb207, 3, none⟩ = some (.int .i64 a0_3) := (blk_cell BK207.out 3).trans rfl
    have hcz30_4 : w16.cell? ⟨gb207, 4, none⟩ = some (.string a0_4) := (blk_cell BK207.out 4).trans rfl
    have hcz30_5 : w16.cell? ⟨gb207, 5, none⟩ = some (.bool a0_5) := (blk_cell BK207.out 5).trans rfl
    have hcz30_6 : w16.cell? ⟨gb207, 6, none⟩ = some (.int .i64 a0_6) := (blk_cell BK207.out 6).trans rfl
    have hcz30_7 : w16.cell? ⟨gb207, 7, none⟩ = some (.string a0_7) := (blk_cell BK207.out 7).trans rfl
    have hfz30_0 := blk_frozen BK207.out 0
    have hfz30_1 := blk_frozen BK207.out 1
    have hfz30_2 := blk_frozen BK207.out 2
    have hfz30_3 := blk_frozen BK207.out 3
    have hfz30_4 := blk_frozen BK207.out 4
    have hfz30_5 := blk_frozen BK207.out 5
    have hfz30_6 := blk_frozen BK207.out 6
    have hfz30_7 := blk_frozen BK207.out 7
    go_wp2
    go_meet
    case rel => exact ⟨_, (true), (by first | rfl | (simp; done) | (simp [*]; done)), H', ⟨by first | omega | exact Nat.le_refl _⟩, ⟨by (with_reducible repeat (first | refine blk_drewN ?_ _ | refine blk_drew ?_ | refine blk_alloc ?_ _)); exact BK207.out⟩, ⟨by (with_reducible repeat (first | refine blk_drewN ?_ _ | refine blk_drew ?_ | refine blk_alloc ?_ _)); exact BK208.out⟩, ⟨by (with_reducible repeat (first | refine blk_drewN ?_ _ | refine blk_drew ?_ | refine blk_alloc ?_ _)); exact BK209.out⟩, ⟨by repeat (first | (with_reducible first | exact HB.out | apply below_alloc | apply pw_below_drewN | apply below_drew1 | refine below_set ?_ GE207.out | refine below_set ?_ GE208.out | refine below_set ?_ GE209.out) | exact HB.out)⟩⟩
  case rest =>
   clear HC13
   try clear c1
   try clear c2
   try clear p2
   try clear c3
   try clear c4
   try clear c7
   try clear c8
   try clear c10
   try clear c17
   try clear c18
   try clear c20
   try clear c22
   try clear c23
   try clear c25
   try clear c28
   try clear c29
   try clear hcz11_0
   try clear hcz11_1
   try clear hcz11_2
   try clear hcz11_3
   try clear hcz11_4
   try clear hcz11_5
   try clear hcz11_6
   try clear hcz11_7
   try clear hcz12_0
   try clear hcz12_1
   try clear hcz12_2
   try clear hcz12_3
   try clear hcz12_4
   try clear hcz12_5
   try clear hcz12_6
   try clear hcz12_7
   try clear hcz19_0
   try clear hcz19_1
   try clear hcz19_2
   try clear hcz24_0
   try clear hcz24_1
   try clear hcz24_2
   try clear hcz24_3
   try clear hcz24_4
   try clear hcz24_5
   try clear hcz24_6
   try clear hcz24_7
   try clear hcz26_0
   try clear hcz26_1
   try clear hcz26_2
   try clear hcz30_0
   try clear hcz30_1
   try clear hcz30_2
   try clear hcz30_3
   try clear hcz30_4
   try clear hcz30_5
   try clear hcz30_6
   try clear hcz30_7
   try clear hcz9_0
   try clear hcz9_1
   try clear hcz9_2
   try clear hfz11_0
   try clear hfz11_1
   try clear hfz11_2
   try clear hfz11_3
   try clear hfz11_4
   try clear hfz11_5
   try clear hfz11_6
   try clear hfz11_7
   try clear hfz12_0
   try clear hfz12_1
   try clear hfz12_2
   try clear hfz12_3
   try clear hfz12_4
   try clear hfz12_5
   try clear hfz12_6
   try clear hfz12_7
   try clear hfz19_0
   try clear hfz19_1
   try clear hfz19_2
   try clear hfz24_0
   try clear hfz24_1
   try clear hfz24_2
   try clear hfz24_3
   try clear hfz24_4
   try clear hfz24_5
   try clear hfz24_6
   try clear hfz24_7
   try clear hfz26_0
   try clear hfz26_1
   try clear hfz26_2
   try clear hfz30_0
   try clear hfz30_1
   try clear hfz30_2
   try clear hfz30_3
   try clear hfz30_4
   try clear hfz30_5
   try clear hfz30_6
   try clear hfz30_7
   try clear hfz9_0
   try clear hfz9_1
   try clear hfz9_2
   obtain ⟨kq, x17_12, rfl, HA, HJ12, BK207, BK208, BK209, HB⟩ := hcut
   cases kq with
   | zero => exact absurd HA.out (by simp [tithebarnref11_add.j0])
   | succ kj12 =>
    have H := HA.out
    clear HA
    simp only [tithebarnref11_add.j0] at H
    have HC31 := Aside0.mk H
    clear H
    go_upto_if 17 with (fail)
    go_cut [] (fun wc => ∃ (kq : Nat) (x208002_30 : Bool) (x208003_30 : Int) (x208004_30 : ByteArray), Aside0 (tithebarnref11_add.j1 kq a0_0 a0_1 x208002_30 x208003_30 x208004_30 a0_5 a0_6 a0_7 false a1_1 a1_2 = some (r1, r2, r3, r4, r5, r6, r7, r8)) ∧ Aside0 (kq ≤ kj12) ∧ Aside0 (wc.heap[gb207]? = some (.cells #[.bool a0_0, .bool a0_1, .bool x208002_30, .int .i64 x208003_30, .string x208004_30, .bool a0_5, .int .i64 a0_6, .string a0_7] 41 (0, 0))) ∧ Aside0 (wc.heap[gb208]? = some (.cells #[.bool false, .int .i64 a1_1, .string a1_2] 27 (0, 0))) ∧ Aside0 (wc.heap[gb209]? = some (.cells #[.bool false, .bool false, .bool false, .int .i64 0, .string (⟨#[]⟩ : ByteArray), .bool false, .int .i64 0, .string (⟨#[]⟩ : ByteArray)] 41 (0, 0))) ∧ Aside0 (Below w.heap.size w wc))
    case first =>
     have H := HC31.out
     clear HC31
     by_cases c32 : x17_12 = true
     ·subst c32
      have H1 : (tithebarnref11_add.j1 kj12 a0_0 a0_1 false a1_1 a1_2 a0_5 a0_6 a0_7 false a1_1 a1_2) = some (r1, r2, r3, r4, r5, r6, r7, r8) := by rw [if_pos rfl] at H; exact H
      clear H
      have H := H1
      clear H1
      have H' := Aside0.mk H
      clear H
      have hnb33 := NB208_207.out
      have hnc33 := NB207_208.out
      have hnb34 := NB208_209.out
      have hnc34 := NB209_208.out
      have hcz35_0 : wc.cell? ⟨gb208, 0, none⟩ = some (.bool false) := (blk_cell BK208.out 0).trans rfl
      have hcz35_1 : wc.cell? ⟨gb208, 1, none⟩ = some (.int .i64 a1_1) := (blk_cell BK208.out 1).trans rfl
      have hcz35_2 : wc.cell? ⟨gb208, 2, none⟩ = some (.string a1_2) := (blk_cell BK208.out 2).trans rfl
      have hfz35_0 := blk_frozen BK208.out 0
      have hfz35_1 := blk_frozen BK208.out 1
      have hfz35_2 := blk_frozen BK208.out 2
      have hnb36 := NB207_209.out
      have hnc36 := NB209_207.out
      have hcz37_0 : wc.cell? ⟨gb207, 0, none⟩ = some (.bool a0_0) := (blk_cell BK207.out 0).trans rfl
      have hcz37_1 : wc.cell? ⟨gb207, 1, none⟩ = some (.bool a0_1) := (blk_cell BK207.out 1).trans rfl
      have hcz37_2 : wc.cell? ⟨gb207, 2, none⟩ = some (.bool a0_2) := (blk_cell BK207.out 2).trans rfl
      have hcz37_3 : wc.cell? ⟨gb207, 3, none⟩ = some (.int .i64 a0_3) := (blk_cell BK207.out 3).trans rfl
      have hcz37_4 : wc.cell? ⟨gb207, 4, none⟩ = some (.string a0_4) := (blk_cell BK207.out 4).trans rfl
      have hcz37_5 : wc.cell? ⟨gb207, 5, none⟩ = some (.bool a0_5) := (blk_cell BK207.out 5).trans rfl
      have hcz37_6 : wc.cell? ⟨gb207, 6, none⟩ = some (.int .i64 a0_6) := (blk_cell BK207.out 6).trans rfl
      have hcz37_7 : wc.cell? ⟨gb207, 7, none⟩ = some (.string a0_7) := (blk_cell BK207.out 7).trans rfl
      have hfz37_0 := blk_frozen BK207.out 0
      have hfz37_1 := blk_frozen BK207.out 1
      have hfz37_2 := blk_frozen BK207.out 2
      have hfz37_3 := blk_frozen BK207.out 3
      have hfz37_4 := blk_frozen BK207.out 4
      have hfz37_5 := blk_frozen BK207.out 5
      have hfz37_6 := blk_frozen BK207.out 6
      have hfz37_7 := blk_frozen BK207.out 7
      go_wp2
      go_meet
      case rel => exact ⟨_, (false), (a1_1), (a1_2), H', ⟨by have := HJ12.out; first | omega | exact Nat.le_refl _⟩, ⟨by refine blk_put (cs := #[.bool a0_0, .bool a0_1, .bool false, .int .i64 a1_1, .string a0_4, .bool a0_5, .int .i64 a0_6, .string a0_7]) ?_ 4 _ rfl; refine blk_put (cs := #[.bool a0_0, .bool a0_1, .bool false, .int .i64 a0_3, .string a0_4, .bool a0_5, .int .i64 a0_6, .string a0_7]) ?_ 3 _ rfl; refine blk_put (cs := #[.bool a0_0, .bool a0_1, .bool a0_2, .int .i64 a0_3, .string a0_4, .bool a0_5, .int .i64 a0_6, .string a0_7]) ?_ 2 _ rfl; (with_reducible repeat (first | refine blk_drewN ?_ _ | refine blk_drew ?_ | refine blk_alloc ?_ _)); exact BK207.out⟩, ⟨by refine blk_far ?_ NB208_207.out _; refine blk_far ?_ NB208_207.out _; refine blk_far ?_ NB208_207.out _; (with_reducible repeat (first | refine blk_drewN ?_ _ | refine blk_drew ?_ | refine blk_alloc ?_ _)); exact BK208.out⟩, ⟨by refine blk_far ?_ NB209_207.out _; refine blk_far ?_ NB209_207.out _; refine blk_far ?_ NB209_207.out _; (with_reducible repeat (first | refine blk_drewN ?_ _ | refine blk_drew ?_ | refine blk_alloc ?_ _)); exact BK209.out⟩, ⟨by repeat (first | (with_reducible first | exact HB.out | apply below_alloc | apply pw_below_drewN | apply below_drew1 | refine below_set ?_ GE207.out | refine below_set ?_ GE208.out | refine below_set ?_ GE209.out) | exact HB.out)⟩⟩
     ·replace c32 := Bool.eq_false_iff.mpr c32
      subst c32
      have H1 : (tithebarnref11_add.j1 kj12 a0_0 a0_1 a0_2 a0_3 a0_4 a0_5 a0_6 a0_7 false a1_1 a1_2) = some (r1, r2, r3, r4, r5, r6, r7, r8) := by rw [if_neg (show ¬ (false = true) by decide)] at H; exact H
      clear H
      have H := H1
      clear H1
      have H' := Aside0.mk H
      clear H
      go_wp2
      go_meet
      case rel => exact ⟨_, (a0_2), (a0_3), (a0_4), H', ⟨by have := HJ12.out; first | omega | exact Nat.le_refl _⟩, ⟨by (with_reducible repeat (first | refine blk_drewN ?_ _ | refine blk_drew ?_ | refine blk_alloc ?_ _)); exact BK207.out⟩, ⟨by (with_reducible repeat (first | refine blk_drewN ?_ _ | refine blk_drew ?_ | refine blk_alloc ?_ _)); exact BK208.out⟩, ⟨by (with_reducible repeat (first | refine blk_drewN ?_ _ | refine blk_drew ?_ | refine blk_alloc ?_ _)); exact BK209.out⟩, ⟨by repeat (first | (with_reducible first | exact HB.out | apply below_alloc | apply pw_below_drewN | apply below_drew1 | refine below_set ?_ GE207.out | refine below_set ?_ GE208.out | refine below_set ?_ GE209.out) | exact HB.out)⟩⟩
    case rest =>
     clear HC31
     try clear c1
     try clear c2
     try clear p2
     try clear c3
     try clear c4
     try clear c7
     try clear c8
     try clear c10
     try clear c17
     try clear c18
     try clear c20
     try clear c22
     try clear c23
     try clear c25
     try clear c28
     try clear c29
     try clear c32
     try clear c33
     try clear c34
     try clear c36
     try clear hcz11_0
     try clear hcz11_1
     try clear hcz11_2
     try clear hcz11_3
     try clear hcz11_4
     try clear hcz11_5
     try clear hcz11_6
     try clear hcz11_7
     try clear hcz12_0
     try clear hcz12_1
     try clear hcz12_2
     try clear hcz12_3
     try clear hcz12_4
     try clear hcz12_5
     try clear hcz12_6
     try clear hcz12_7
     try clear hcz19_0
     try clear hcz19_1
     try clear hcz19_2
     try clear hcz24_0
     try clear hcz24_1
     try clear hcz24_2
     try clear hcz24_3
     try clear hcz24_4
     try clear hcz24_5
     try clear hcz24_6
     try clear hcz24_7
     try clear hcz26_0
     try clear hcz26_1
     try clear hcz26_2
     try clear hcz30_0
     try clear hcz30_1
     try clear hcz30_2
     try clear hcz30_3
     try clear hcz30_4
     try clear hcz30_5
     try clear hcz30_6
     try clear hcz30_7
     try clear hcz35_0
     try clear hcz35_1
     try clear hcz35_2
     try clear hcz37_0
     try clear hcz37_1
     try clear hcz37_2
     try clear hcz37_3
     try clear hcz37_4
     try clear hcz37_5
     try clear hcz37_6
     try clear hcz37_7
     try clear hcz9_0
     try clear hcz9_1
     try clear hcz9_2
     try clear hfz11_0
     try clear hfz11_1
     try clear hfz11_2
     try clear hfz11_3
     try clear hfz11_4
     try clear hfz11_5
     try clear hfz11_6
     try clear hfz11_7
     try clear hfz12_0
     try clear hfz12_1
     try clear hfz12_2
     try clear hfz12_3
     try clear hfz12_4
     try clear hfz12_5
     try clear hfz12_6
     try clear hfz12_7
     try clear hfz19_0
     try clear hfz19_1
     try clear hfz19_2
     try clear hfz24_0
     try clear hfz24_1
     try clear hfz24_2
     try clear hfz24_3
     try clear hfz24_4
     try clear hfz24_5
     try clear hfz24_6
     try clear hfz24_7
     try clear hfz26_0
     try clear hfz26_1
     try clear hfz26_2
     try clear hfz30_0
     try clear hfz30_1
     try clear hfz30_2
     try clear hfz30_3
     try clear hfz30_4
     try clear hfz30_5
     try clear hfz30_6
     try clear hfz30_7
     try clear hfz35_0
     try clear hfz35_1
     try clear hfz35_2
     try clear hfz37_0
     try clear hfz37_1
     try clear hfz37_2
     try clear hfz37_3
     try clear hfz37_4
     try clear hfz37_5
     try clear hfz37_6
     try clear hfz37_7
     try clear hfz9_0
     try clear hfz9_1
     try clear hfz9_2
     try clear p2
     obtain ⟨kq, x208002_30, x208003_30, x208004_30, HA, HJ30, BK207, BK208, BK209, HB⟩ := hcut
     cases kq with
     | zero => exact absurd HA.out (by simp [tithebarnref11_add.j1])
     | succ kj30 =>
      have H := HA.out
      clear HA
      simp only [tithebarnref11_add.j1] at H
      have HC38 := Aside0.mk H
      clear H
      go_upto_region 6 with (fail)
      go_cut [28] (fun v28 wc => ∃ (kq : Nat) (x28_37 : Bool), v28 = .bool x28_37 ∧ Aside0 (tithebarnref11_add.j2 kq x28_37 a0_0 a0_1 x208002_30 x208003_30 x208004_30 a0_5 a0_6 a0_7 false a1_1 a1_2 = some (r1, r2, r3, r4, r5, r6, r7, r8)) ∧ Aside0 (kq ≤ kj30) ∧ Aside0 (wc.heap[gb207]? = some (.cells #[.bool a0_0, .bool a0_1, .bool x208002_30, .int .i64 x208003_30, .string x208004_30, .bool a0_5, .int .i64 a0_6, .string a0_7] 41 (0, 0))) ∧ Aside0 (wc.heap[gb208]? = some (.cells #[.bool false, .int .i64 a1_1, .string a1_2] 27 (0, 0))) ∧ Aside0 (wc.heap[gb209]? = some (.cells #[.bool false, .bool false, .bool false, .int .i64 0, .string (⟨#[]⟩ : ByteArray), .bool false, .int .i64 0, .string (⟨#[]⟩ : ByteArray)] 41 (0, 0))) ∧ Aside0 (Below w.heap.size w wc))
      case first =>
       have H := HC38.out
       clear HC38
       by_cases c39 : a0_1 = true
       ·subst c39
        have H1 : ((tithebarnref02_Ahead_c.f a0_5 a0_6 a0_7 false a1_1 a1_2).bind fun t211 => (tithebarnref11_add.j2 kj30 t211 a0_0 true x208002_30 x208003_30 x208004_30 a0_5 a0_6 a0_7 false a1_1 a1_2)) = some (r1, r2, r3, r4, r5, r6, r7, r8) := by rw [if_pos rfl] at H; exact H
        clear H
        have H := H1
        clear H1
        replace H := Option.bind_eq_some_iff.mp H
        obtain ⟨t211, A400, H⟩ := H
        replace H : (tithebarnref11_add.j2 kj30 t211 a0_0 true x208002_30 x208003_30 x208004_30 a0_5 a0_6 a0_7 false a1_1 a1_2) = some (r1, r2, r3, r4, r5, r6, r7, r8) := H
        have A40 := Aside0.mk A400
        clear A400
        have H' := Aside0.mk H
        clear H
        have hnb41 := NB207_208.out
        have hnc41 := NB208_207.out
        have hnb42 := NB207_209.out
        have hnc42 := NB209_207.out
        have hcz43_0 : wc.cell? ⟨gb207, 0, none⟩ = some (.bool a0_0) := (blk_cell BK207.out 0).trans rfl
        have hcz43_1 : wc.cell? ⟨gb207, 1, none⟩ = some (.bool true) := (blk_cell BK207.out 1).trans rfl
        have hcz43_2 : wc.cell? ⟨gb207, 2, none⟩ = some (.bool x208002_30) := (blk_cell BK207.out 2).trans rfl
        have hcz43_3 : wc.cell? ⟨gb207, 3, none⟩ = some (.int .i64 x208003_30) := (blk_cell BK207.out 3).trans rfl
        have hcz43_4 : wc.cell? ⟨gb207, 4, none⟩ = some (.string x208004_30) := (blk_cell BK207.out 4).trans rfl
        have hcz43_5 : wc.cell? ⟨gb207, 5, none⟩ = some (.bool a0_5) := (blk_cell BK207.out 5).trans rfl
        have hcz43_6 : wc.cell? ⟨gb207, 6, none⟩ = some (.int .i64 a0_6) := (blk_cell BK207.out 6).trans rfl
        have hcz43_7 : wc.cell? ⟨gb207, 7, none⟩ = some (.string a0_7) := (blk_cell BK207.out 7).trans rfl
        have hfz43_0 := blk_frozen BK207.out 0
        have hfz43_1 := blk_frozen BK207.out 1
        have hfz43_2 := blk_frozen BK207.out 2
        have hfz43_3 := blk_frozen BK207.out 3
        have hfz43_4 := blk_frozen BK207.out 4
        have hfz43_5 := blk_frozen BK207.out 5
        have hfz43_6 := blk_frozen BK207.out 6
        have hfz43_7 := blk_frozen BK207.out 7
        have hnb44 := NB208_209.out
        have hnc44 := NB209_208.out
        have hcz45_0 : wc.cell? ⟨gb208, 0, none⟩ = some (.bool false) := (blk_cell BK208.out 0).trans rfl
        have hcz45_1 : wc.cell? ⟨gb208, 1, none⟩ = some (.int .i64 a1_1) := (blk_cell BK208.out 1).trans rfl
        have hcz45_2 : wc.cell? ⟨gb208, 2, none⟩ = some (.string a1_2) := (blk_cell BK208.out 2).trans rfl
        have hfz45_0 := blk_frozen BK208.out 0
        have hfz45_1 := blk_frozen BK208.out 1
        have hfz45_2 := blk_frozen BK208.out 2
        go_wp2_with (first | (go_at_call 36; (with_reducible refine (tithebarnref02_Ahead_c.calls a0_5 a0_6 a0_7 false a1_1 a1_2 t211 _ A40.out).mono ?_); rintro e w46 ⟨rfl, hb⟩; have n0_ := Aside0.mk (blk_below (g := gb207) (o := .cells #[.bool a0_0, .bool true, .bool x208002_30, .int .i64 x208003_30, .string x208004_30, .bool a0_5, .int .i64 a0_6, .string a0_7] 41 (0, 0)) (by (with_reducible repeat (first | refine blk_drewN ?_ _ | refine blk_drew ?_ | refine blk_alloc ?_ _)); exact BK207.out) hb); have n1_ := Aside0.mk (blk_below (g := gb208) (o := .cells #[.bool false, .int .i64 a1_1, .string a1_2] 27 (0, 0)) (by (with_reducible repeat (first | refine blk_drewN ?_ _ | refine blk_drew ?_ | refine blk_alloc ?_ _)); exact BK208.out) hb); have n2_ := Aside0.mk (blk_below (g := gb209) (o := .cells #[.bool false, .bool false, .bool false, .int .i64 0, .string (⟨#[]⟩ : ByteArray), .bool false, .int .i64 0, .string (⟨#[]⟩ : ByteArray)] 41 (0, 0)) (by (with_reducible repeat (first | refine blk_drewN ?_ _ | refine blk_drew ?_ | refine blk_alloc ?_ _)); exact BK209.out) hb); have n3_ := Aside0.mk (below_step (by repeat (first | (with_reducible first | exact HB.out | apply below_alloc | apply pw_below_drewN | apply below_drew1 | refine below_set ?_ GE207.out | refine below_set ?_ GE208.out | refine below_set ?_ GE209.out) | exact HB.out)) hb); clear BK207; clear BK208; clear BK209; clear HB; have BK207 := n0_; have BK208 := n1_; have BK209 := n2_; have HB := n3_; clear n0_ n1_ n2_ n3_; (try clear hb); (try clear hb2); (try clear hk); (try clear hi)))
        go_meet
        case rel => exact ⟨_, (t211), (by first | rfl | (simp; done) | (simp [*]; done)), H', ⟨by have := HJ12.out; have := HJ30.out; first | omega | exact Nat.le_refl _⟩, ⟨by (with_reducible repeat (first | refine blk_drewN ?_ _ | refine blk_drew ?_ | refine blk_alloc ?_ _)); exact BK207.out⟩, ⟨by (with_reducible repeat (first | refine blk_drewN ?_ _ | refine blk_drew ?_ | refine blk_alloc ?_ _)); exact BK208.out⟩, ⟨by (with_reducible repeat (first | refine blk_drewN ?_ _ | refine blk_drew ?_ | refine blk_alloc ?_ _)); exact BK209.out⟩, ⟨by repeat (first | (with_reducible first | exact HB.out | apply below_alloc | apply pw_below_drewN | apply below_drew1 | refine below_set ?_ GE207.out | refine below_set ?_ GE208.out | refine below_set ?_ GE209.out) | exact HB.out)⟩⟩
       ·replace c39 := Bool.eq_false_iff.mpr c39
        subst c39
        have H1 : (tithebarnref11_add.j2 kj30 true a0_0 false x208002_30 x208003_30 x208004_30 a0_5 a0_6 a0_7 false a1_1 a1_2) = some (r1, r2, r3, r4, r5, r6, r7, r8) := by rw [if_neg (show ¬ (false = true) by decide)] at H; exact H
        clear H
        have H := H1
        clear H1
        have H' := Aside0.mk H
        clear H
        have hnb47 := NB207_208.out
        have hnc47 := NB208_207.out
        have hnb48 := NB207_209.out
        have hnc48 := NB209_207.out
        have hcz49_0 : wc.cell? ⟨gb207, 0, none⟩ = some (.bool a0_0) := (blk_cell BK207.out 0).trans rfl
        have hcz49_1 : wc.cell? ⟨gb207, 1, none⟩ = some (.bool false) := (blk_cell BK207.out 1).trans rfl
        have hcz49_2 : wc.cell? ⟨gb207, 2, none⟩ = some (.bool x208002_30) := (blk_cell BK207.out 2).trans rfl
        have hcz49_3 : wc.cell? ⟨gb207, 3, none⟩ = some (.int .i64 x208003_30) := (blk_cell BK207.out 3).trans rfl
        have hcz49_4 : wc.cell? ⟨gb207, 4, none⟩ = some (.string x208004_30) := (blk_cell BK207.out 4).trans rfl
        have hcz49_5 : wc.cell? ⟨gb207, 5, none⟩ = some (.bool a0_5) := (blk_cell BK207.out 5).trans rfl
        have hcz49_6 : wc.cell? ⟨gb207, 6, none⟩ = some (.int .i64 a0_6) := (blk_cell BK207.out 6).trans rfl
        have hcz49_7 : wc.cell? ⟨gb207, 7, none⟩ = some (.string a0_7) := (blk_cell BK207.out 7).trans rfl
        have hfz49_0 := blk_frozen BK207.out 0
        have hfz49_1 := blk_frozen BK207.out 1
        have hfz49_2 := blk_frozen BK207.out 2
        have hfz49_3 := blk_frozen BK207.out 3
        have hfz49_4 := blk_frozen BK207.out 4
        have hfz49_5 := blk_frozen BK207.out 5
        have hfz49_6 := blk_frozen BK207.out 6
        have hfz49_7 := blk_frozen BK207.out 7
        go_wp2
        go_meet
        case rel => exact ⟨_, (true), (by first | rfl | (simp; done) | (simp [*]; done)), H', ⟨by have := HJ12.out; have := HJ30.out; first | omega | exact Nat.le_refl _⟩, ⟨by (with_reducible repeat (first | refine blk_drewN ?_ _ | refine blk_drew ?_ | refine blk_alloc ?_ _)); exact BK207.out⟩, ⟨by (with_reducible repeat (first | refine blk_drewN ?_ _ | refine blk_drew ?_ | refine blk_alloc ?_ _)); exact BK208.out⟩, ⟨by (with_reducible repeat (first | refine blk_drewN ?_ _ | refine blk_drew ?_ | refine blk_alloc ?_ _)); exact BK209.out⟩, ⟨by repeat (first | (with_reducible first | exact HB.out | apply below_alloc | apply pw_below_drewN | apply below_drew1 | refine below_set ?_ GE207.out | refine below_set ?_ GE208.out | refine below_set ?_ GE209.out) | exact HB.out)⟩⟩
      case rest =>
       clear HC38
       try clear c1
       try clear c2
       try clear p2
       try clear c3
       try clear c4
       try clear c7
       try clear c8
       try clear c10
       try clear c17
       try clear c18
       try clear c20
       try clear c22
       try clear c23
       try clear c25
       try clear c28
       try clear c29
       try clear c32
       try clear c33
       try clear c34
       try clear c36
       try clear c39
       try clear c41
       try clear c42
       try clear c44
       try clear c47
       try clear c48
       try clear hcz11_0
       try clear hcz11_1
       try clear hcz11_2
       try clear hcz11_3
       try clear hcz11_4
       try clear hcz11_5
       try clear hcz11_6
       try clear hcz11_7
       try clear hcz12_0
       try clear hcz12_1
       try clear hcz12_2
       try clear hcz12_3
       try clear hcz12_4
       try clear hcz12_5
       try clear hcz12_6
       try clear hcz12_7
       try clear hcz19_0
       try clear hcz19_1
       try clear hcz19_2
       try clear hcz24_0
       try clear hcz24_1
       try clear hcz24_2
       try clear hcz24_3
       try clear hcz24_4
       try clear hcz24_5
       try clear hcz24_6
       try clear hcz24_7
       try clear hcz26_0
       try clear hcz26_1
       try clear hcz26_2
       try clear hcz30_0
       try clear hcz30_1
       try clear hcz30_2
       try clear hcz30_3
       try clear hcz30_4
       try clear hcz30_5
       try clear hcz30_6
       try clear hcz30_7
       try clear hcz35_0
       try clear hcz35_1
       try clear hcz35_2
       try clear hcz37_0
       try clear hcz37_1
       try clear hcz37_2
       try clear hcz37_3
       try clear hcz37_4
       try clear hcz37_5
       try clear hcz37_6
       try clear hcz37_7
       try clear hcz43_0
       try clear hcz43_1
       try clear hcz43_2
       try clear hcz43_3
       try clear hcz43_4
       try clear hcz43_5
       try clear hcz43_6
       try clear hcz43_7
       try clear hcz45_0
       try clear hcz45_1
       try clear hcz45_2
       try clear hcz49_0
       try clear hcz49_1
       try clear hcz49_2
       try clear hcz49_3
       try clear hcz49_4
       try clear hcz49_5
       try clear hcz49_6
       try clear hcz49_7
       try clear hcz9_0
       try clear hcz9_1
       try clear hcz9_2
       try clear hfz11_0
       try clear hfz11_1
       try clear hfz11_2
       try clear hfz11_3
       try clear hfz11_4
       try clear hfz11_5
       try clear hfz11_6
       try clear hfz11_7
       try clear hfz12_0
       try clear hfz12_1
       try clear hfz12_2
       try clear hfz12_3
       try clear hfz12_4
       try clear hfz12_5
       try clear hfz12_6
       try clear hfz12_7
       try clear hfz19_0
       try clear hfz19_1
       try clear hfz19_2
       try clear hfz24_0
       try clear hfz24_1
       try clear hfz24_2
       try clear hfz24_3
       try clear hfz24_4
       try clear hfz24_5
       try clear hfz24_6
       try clear hfz24_7
       try clear hfz26_0
       try clear hfz26_1
       try clear hfz26_2
       try clear hfz30_0
       try clear hfz30_1
       try clear hfz30_2
       try clear hfz30_3
       try clear hfz30_4
       try clear hfz30_5
       try clear hfz30_6
       try clear hfz30_7
       try clear hfz35_0
       try clear hfz35_1
       try clear hfz35_2
       try clear hfz37_0
       try clear hfz37_1
       try clear hfz37_2
       try clear hfz37_3
       try clear hfz37_4
       try clear hfz37_5
       try clear hfz37_6
       try clear hfz37_7
       try clear hfz43_0
       try clear hfz43_1
       try clear hfz43_2
       try clear hfz43_3
       try clear hfz43_4
       try clear hfz43_5
       try clear hfz43_6
       try clear hfz43_7
       try clear hfz45_0
       try clear hfz45_1
       try clear hfz45_2
       try clear hfz49_0
       try clear hfz49_1
       try clear hfz49_2
       try clear hfz49_3
       try clear hfz49_4
       try clear hfz49_5
       try clear hfz49_6
       try clear hfz49_7
       try clear hfz9_0
       try clear hfz9_1
       try clear hfz9_2
       try clear p2
       obtain ⟨kq, x28_37, rfl, HA, HJ37, BK207, BK208, BK209, HB⟩ := hcut
       cases kq with
       | zero => exact absurd HA.out (by simp [tithebarnref11_add.j2])
       | succ kj37 =>
        have H := HA.out
        clear HA
        simp only [tithebarnref11_add.j2] at H
        by_cases c50 : x28_37 = true
        ·subst c50
         have H1 : (some (a0_0, true, x208002_30, x208003_30, x208004_30, false, a1_1, a1_2)) = some (r1, r2, r3, r4, r5, r6, r7, r8) := by rw [if_pos rfl] at H; exact H
         clear H
         have H := H1
         clear H1
         simp only [Option.some.injEq, Prod.mk.injEq] at H
         obtain ⟨rfl, rfl, rfl, rfl, rfl, rfl, rfl, rfl⟩ := H
         have hnb51 := NB208_207.out
         have hnc51 := NB207_208.out
         have hnb52 := NB208_209.out
         have hnc52 := NB209_208.out
         have hcz53_0 : wc.cell? ⟨gb208, 0, none⟩ = some (.bool false) := (blk_cell BK208.out 0).trans rfl
         have hcz53_1 : wc.cell? ⟨gb208, 1, none⟩ = some (.int .i64 a1_1) := (blk_cell BK208.out 1).trans rfl
         have hcz53_2 : wc.cell? ⟨gb208, 2, none⟩ = some (.string a1_2) := (blk_cell BK208.out 2).trans rfl
         have hfz53_0 := blk_frozen BK208.out 0
         have hfz53_1 := blk_frozen BK208.out 1
         have hfz53_2 := blk_frozen BK208.out 2
         have hnb54 := NB207_209.out
         have hnc54 := NB209_207.out
         have hcz55_0 : wc.cell? ⟨gb207, 0, none⟩ = some (.bool a0_0) := (blk_cell BK207.out 0).trans rfl
         have hcz55_1 : wc.cell? ⟨gb207, 1, none⟩ = some (.bool a0_1) := (blk_cell BK207.out 1).trans rfl
         have hcz55_2 : wc.cell? ⟨gb207, 2, none⟩ = some (.bool x208002_30) := (blk_cell BK207.out 2).trans rfl
         have hcz55_3 : wc.cell? ⟨gb207, 3, none⟩ = some (.int .i64 x208003_30) := (blk_cell BK207.out 3).trans rfl
         have hcz55_4 : wc.cell? ⟨gb207, 4, none⟩ = some (.string x208004_30) := (blk_cell BK207.out 4).trans rfl
         have hcz55_5 : wc.cell? ⟨gb207, 5, none⟩ = some (.bool a0_5) := (blk_cell BK207.out 5).trans rfl
         have hcz55_6 : wc.cell? ⟨gb207, 6, none⟩ = some (.int .i64 a0_6) := (blk_cell BK207.out 6).trans rfl
         have hcz55_7 : wc.cell? ⟨gb207, 7, none⟩ = some (.string a0_7) := (blk_cell BK207.out 7).trans rfl
         have hfz55_0 := blk_frozen BK207.out 0
         have hfz55_1 := blk_frozen BK207.out 1
         have hfz55_2 := blk_frozen BK207.out 2
         have hfz55_3 := blk_frozen BK207.out 3
         have hfz55_4 := blk_frozen BK207.out 4
         have hfz55_5 := blk_frozen BK207.out 5
         have hfz55_6 := blk_frozen BK207.out 6
         have hfz55_7 := blk_frozen BK207.out 7
         have hcz56_0 : wc.cell? ⟨gb209, 0, none⟩ = some (.bool false) := (blk_cell BK209.out 0).trans rfl
         have hcz56_1 : wc.cell? ⟨gb209, 1, none⟩ = some (.bool false) := (blk_cell BK209.out 1).trans rfl
         have hcz56_2 : wc.cell? ⟨gb209, 2, none⟩ = some (.bool false) := (blk_cell BK209.out 2).trans rfl
         have hcz56_3 : wc.cell? ⟨gb209, 3, none⟩ = some (.int .i64 0) := (blk_cell BK209.out 3).trans rfl
         have hcz56_4 : wc.cell? ⟨gb209, 4, none⟩ = some (.string (⟨#[]⟩ : ByteArray)) := (blk_cell BK209.out 4).trans rfl
         have hcz56_5 : wc.cell? ⟨gb209, 5, none⟩ = some (.bool false) := (blk_cell BK209.out 5).trans rfl
         have hcz56_6 : wc.cell? ⟨gb209, 6, none⟩ = some (.int .i64 0) := (blk_cell BK209.out 6).trans rfl
         have hcz56_7 : wc.cell? ⟨gb209, 7, none⟩ = some (.string (⟨#[]⟩ : ByteArray)) := (blk_cell BK209.out 7).trans rfl
         have hfz56_0 := blk_frozen BK209.out 0
         have hfz56_1 := blk_frozen BK209.out 1
         have hfz56_2 := blk_frozen BK209.out 2
         have hfz56_3 := blk_frozen BK209.out 3
         have hfz56_4 := blk_frozen BK209.out 4
         have hfz56_5 := blk_frozen BK209.out 5
         have hfz56_6 := blk_frozen BK209.out 6
         have hfz56_7 := blk_frozen BK209.out 7
         go_wp2
         refine bodyPost_ret (results_cell_row rfl _ _ gb209 41 #[.bool a0_0, .bool true, .bool x208002_30, .int .i64 x208003_30, .string x208004_30, .bool false, .int .i64 a1_1, .string a1_2] (0, 0) _ rfl (by refine blk_put (cs := #[.bool a0_0, .bool true, .bool x208002_30, .int .i64 x208003_30, .string x208004_30, .bool false, .int .i64 a1_1, .string (⟨#[]⟩ : ByteArray)]) ?_ 7 _ rfl; refine blk_put (cs := #[.bool a0_0, .bool true, .bool x208002_30, .int .i64 x208003_30, .string x208004_30, .bool false, .int .i64 0, .string (⟨#[]⟩ : ByteArray)]) ?_ 6 _ rfl; refine blk_put (cs := #[.bool a0_0, .bool true, .bool x208002_30, .int .i64 x208003_30, .string x208004_30, .bool false, .int .i64 0, .string (⟨#[]⟩ : ByteArray)]) ?_ 5 _ rfl; refine blk_put (cs := #[.bool a0_0, .bool true, .bool x208002_30, .int .i64 x208003_30, .string (⟨#[]⟩ : ByteArray), .bool false, .int .i64 0, .string (⟨#[]⟩ : ByteArray)]) ?_ 4 _ rfl; refine blk_put (cs := #[.bool a0_0, .bool true, .bool x208002_30, .int .i64 0, .string (⟨#[]⟩ : ByteArray), .bool false, .int .i64 0, .string (⟨#[]⟩ : ByteArray)]) ?_ 3 _ rfl; refine blk_put (cs := #[.bool a0_0, .bool true, .bool false, .int .i64 0, .string (⟨#[]⟩ : ByteArray), .bool false, .int .i64 0, .string (⟨#[]⟩ : ByteArray)]) ?_ 2 _ rfl; refine blk_put (cs := #[.bool a0_0, .bool false, .bool false, .int .i64 0, .string (⟨#[]⟩ : ByteArray), .bool false, .int .i64 0, .string (⟨#[]⟩ : ByteArray)]) ?_ 1 _ rfl; refine blk_put (cs := #[.bool false, .bool false, .bool false, .int .i64 0, .string (⟨#[]⟩ : ByteArray), .bool false, .int .i64 0, .string (⟨#[]⟩ : ByteArray)]) ?_ 0 _ rfl; refine blk_far ?_ NB209_207.out _; refine blk_far ?_ NB209_207.out _; refine blk_far ?_ NB209_207.out _; refine blk_far ?_ NB209_207.out _; (with_reducible repeat (first | refine blk_drewN ?_ _ | refine blk_drew ?_ | refine blk_alloc ?_ _)); exact BK209.out) Try.underlying41 rfl (by kernel_rfl)) rfl ?_
         exact ⟨by first | rfl | (simp [errW_none, errW_some] <;> rfl) | (simp [*, errW_none, errW_some] <;> rfl), by repeat (first | (with_reducible first | exact HB.out | apply below_alloc | apply pw_below_drewN | apply below_drew1 | refine below_set ?_ GE207.out | refine below_set ?_ GE208.out | refine below_set ?_ GE209.out) | exact HB.out)⟩
        ·replace c50 := Bool.eq_false_iff.mpr c50
         subst c50
         have H1 : (some (a0_0, true, x208002_30, x208003_30, x208004_30, a0_5, a0_6, a0_7)) = some (r1, r2, r3, r4, r5, r6, r7, r8) := by rw [if_neg (show ¬ (false = true) by decide)] at H; exact H
         clear H
         have H := H1
         clear H1
         simp only [Option.some.injEq, Prod.mk.injEq] at H
         obtain ⟨rfl, rfl, rfl, rfl, rfl, rfl, rfl, rfl⟩ := H
         have hnb57 := NB207_208.out
         have hnc57 := NB208_207.out
         have hnb58 := NB207_209.out
         have hnc58 := NB209_207.out
         have hcz59_0 : wc.cell? ⟨gb207, 0, none⟩ = some (.bool a0_0) := (blk_cell BK207.out 0).trans rfl
         have hcz59_1 : wc.cell? ⟨gb207, 1, none⟩ = some (.bool a0_1) := (blk_cell BK207.out 1).trans rfl
         have hcz59_2 : wc.cell? ⟨gb207, 2, none⟩ = some (.bool x208002_30) := (blk_cell BK207.out 2).trans rfl
         have hcz59_3 : wc.cell? ⟨gb207, 3, none⟩ = some (.int .i64 x208003_30) := (blk_cell BK207.out 3).trans rfl
         have hcz59_4 : wc.cell? ⟨gb207, 4, none⟩ = some (.string x208004_30) := (blk_cell BK207.out 4).trans rfl
         have hcz59_5 : wc.cell? ⟨gb207, 5, none⟩ = some (.bool a0_5) := (blk_cell BK207.out 5).trans rfl
         have hcz59_6 : wc.cell? ⟨gb207, 6, none⟩ = some (.int .i64 a0_6) := (blk_cell BK207.out 6).trans rfl
         have hcz59_7 : wc.cell? ⟨gb207, 7, none⟩ = some (.string a0_7) := (blk_cell BK207.out 7).trans rfl
         have hfz59_0 := blk_frozen BK207.out 0
         have hfz59_1 := blk_frozen BK207.out 1
         have hfz59_2 := blk_frozen BK207.out 2
         have hfz59_3 := blk_frozen BK207.out 3
         have hfz59_4 := blk_frozen BK207.out 4
         have hfz59_5 := blk_frozen BK207.out 5
         have hfz59_6 := blk_frozen BK207.out 6
         have hfz59_7 := blk_frozen BK207.out 7
         have hnb60 := NB209_208.out
         have hnc60 := NB208_209.out
         have hcz61_0 : wc.cell? ⟨gb209, 0, none⟩ = some (.bool false) := (blk_cell BK209.out 0).trans rfl
         have hcz61_1 : wc.cell? ⟨gb209, 1, none⟩ = some (.bool false) := (blk_cell BK209.out 1).trans rfl
         have hcz61_2 : wc.cell? ⟨gb209, 2, none⟩ = some (.bool false) := (blk_cell BK209.out 2).trans rfl
         have hcz61_3 : wc.cell? ⟨gb209, 3, none⟩ = some (.int .i64 0) := (blk_cell BK209.out 3).trans rfl
         have hcz61_4 : wc.cell? ⟨gb209, 4, none⟩ = some (.string (⟨#[]⟩ : ByteArray)) := (blk_cell BK209.out 4).trans rfl
         have hcz61_5 : wc.cell? ⟨gb209, 5, none⟩ = some (.bool false) := (blk_cell BK209.out 5).trans rfl
         have hcz61_6 : wc.cell? ⟨gb209, 6, none⟩ = some (.int .i64 0) := (blk_cell BK209.out 6).trans rfl
         have hcz61_7 : wc.cell? ⟨gb209, 7, none⟩ = some (.string (⟨#[]⟩ : ByteArray)) := (blk_cell BK209.out 7).trans rfl
         have hfz61_0 := blk_frozen BK209.out 0
         have hfz61_1 := blk_frozen BK209.out 1
         have hfz61_2 := blk_frozen BK209.out 2
         have hfz61_3 := blk_frozen BK209.out 3
         have hfz61_4 := blk_frozen BK209.out 4
         have hfz61_5 := blk_frozen BK209.out 5
         have hfz61_6 := blk_frozen BK209.out 6
         have hfz61_7 := blk_frozen BK209.out 7
         go_wp2
         refine bodyPost_ret (results_cell_row rfl _ _ gb209 41 #[.bool a0_0, .bool true, .bool x208002_30, .int .i64 x208003_30, .string x208004_30, .bool a0_5, .int .i64 a0_6, .string a0_7] (0, 0) _ rfl (by refine blk_put (cs := #[.bool a0_0, .bool true, .bool x208002_30, .int .i64 x208003_30, .string x208004_30, .bool a0_5, .int .i64 a0_6, .string (⟨#[]⟩ : ByteArray)]) ?_ 7 _ rfl; refine blk_put (cs := #[.bool a0_0, .bool true, .bool x208002_30, .int .i64 x208003_30, .string x208004_30, .bool a0_5, .int .i64 0, .string (⟨#[]⟩ : ByteArray)]) ?_ 6 _ rfl; refine blk_put (cs := #[.bool a0_0, .bool true, .bool x208002_30, .int .i64 x208003_30, .string x208004_30, .bool false, .int .i64 0, .string (⟨#[]⟩ : ByteArray)]) ?_ 5 _ rfl; refine blk_put (cs := #[.bool a0_0, .bool true, .bool x208002_30, .int .i64 x208003_30, .string (⟨#[]⟩ : ByteArray), .bool false, .int .i64 0, .string (⟨#[]⟩ : ByteArray)]) ?_ 4 _ rfl; refine blk_put (cs := #[.bool a0_0, .bool true, .bool x208002_30, .int .i64 0, .string (⟨#[]⟩ : ByteArray), .bool false, .int .i64 0, .string (⟨#[]⟩ : ByteArray)]) ?_ 3 _ rfl; refine blk_put (cs := #[.bool a0_0, .bool true, .bool false, .int .i64 0, .string (⟨#[]⟩ : ByteArray), .bool false, .int .i64 0, .string (⟨#[]⟩ : ByteArray)]) ?_ 2 _ rfl; refine blk_put (cs := #[.bool a0_0, .bool false, .bool false, .int .i64 0, .string (⟨#[]⟩ : ByteArray), .bool false, .int .i64 0, .string (⟨#[]⟩ : ByteArray)]) ?_ 1 _ rfl; refine blk_put (cs := #[.bool false, .bool false, .bool false, .int .i64 0, .string (⟨#[]⟩ : ByteArray), .bool false, .int .i64 0, .string (⟨#[]⟩ : ByteArray)]) ?_ 0 _ rfl; refine blk_far ?_ NB209_207.out _; (with_reducible repeat (first | refine blk_drewN ?_ _ | refine blk_drew ?_ | refine blk_alloc ?_ _)); exact BK209.out) Try.underlying41 rfl (by kernel_rfl)) rfl ?_
         exact ⟨by first | rfl | (simp [errW_none, errW_some] <;> rfl) | (simp [*, errW_none, errW_some] <;> rfl), by repeat (first | (with_reducible first | exact HB.out | apply below_alloc | apply pw_below_drewN | apply below_drew1 | refine below_set ?_ GE207.out | refine below_set ?_ GE208.out | refine below_set ?_ GE209.out) | exact HB.out)⟩
/-! ### tithebarnref11_add_c: function 47 -/
--@import Derived.Test.YtnfliommpdjlkaaThy
def addR (z : Zn) (v : S27) : Zn := if v.f0 = true then ⟨true, z.va, z.lo, z.hi⟩ else
  ⟨z.nu, true, if z.va = true then (if lessV v z.lo = true then v else z.lo) else v, if z.va = true then (if lessV z.hi v = true then v else z.hi) else v⟩
theorem tithebarnref11_add.is (z : Zn) (v : S27) (h : v.f2.size ≤ 9223372036854775807) (h' : z.hi.f2.size ≤ 9223372036854775807) : tithebarnref11_add.f 3 z.nu z.va z.lo.f0 z.lo.f1 z.lo.f2 z.hi.f0 z.hi.f1 z.hi.f2 v.f0 v.f1 v.f2 = some (addR z v).tup := by
  unfold tithebarnref11_add.f addR
  by_cases hn : v.f0 = true
  · rw [if_pos hn, if_pos hn]; rfl
  rw [if_neg hn, if_neg hn]
  have hv : v.f0 = false := by simpa using hn
  by_cases hz : z.va = true
  · simp only [hz, if_true, tithebarnref02_Ahead_c.f, if_pos h, if_pos h', Option.bind_some, tithebarnref11_add.j0, tithebarnref11_add.j1, tithebarnref11_add.j2, lessV]
    by_cases c1 : Thy.less v.f0 v.f1 v.f2 z.lo.f0 z.lo.f1 z.lo.f2 = true <;>
      by_cases c2 : Thy.less z.hi.f0 z.hi.f1 z.hi.f2 v.f0 v.f1 v.f2 = true <;>
      simp only [c1, c2, if_true, if_false, Bool.false_eq_true, Zn.tup]
  · simp only [hz, if_false, Bool.false_eq_true, tithebarnref11_add.j0, tithebarnref11_add.j1, tithebarnref11_add.j2, if_true, Zn.tup]
def tithebarnref11_add_c.f (a0_0 : Bool) (a0_1 : Bool) (a0_2 : Bool) (a0_3 : Int) (a0_4 : ByteArray) (a0_5 : Bool) (a0_6 : Int) (a0_7 : ByteArray) (a1_0 : Bool) (a1_1 : Int) (a1_2 : ByteArray) : Option (Bool × Bool × Bool × Int × ByteArray × Bool × Int × ByteArray) := if a1_2.size ≤ 9223372036854775807 ∧ a0_7.size ≤ 9223372036854775807 then some (addR ⟨a0_0, a0_1, ⟨a0_2, a0_3, a0_4⟩, ⟨a0_5, a0_6, a0_7⟩⟩ ⟨a1_0, a1_1, a1_2⟩).tup else none
theorem tithebarnref11_add_c.calls (a0_0 : Bool) (a0_1 : Bool) (a0_2 : Bool) (a0_3 : Int) (a0_4 : ByteArray) (a0_5 : Bool) (a0_6 : Int) (a0_7 : ByteArray) (a1_0 : Bool) (a1_1 : Int) (a1_2 : ByteArray) (r1 : Bool) (r2 : Bool) (r3 : Bool) (r4 : Int) (r5 : ByteArray) (r6 : Bool) (r7 : Int) (r8 : ByteArray) (w : World) (h : tithebarnref11_add_c.f a0_0 a0_1 a0_2 a0_3 a0_4 a0_5 a0_6 a0_7 a1_0 a1_1 a1_2 = some (r1, r2, r3, r4, r5, r6, r7, r8)) :
    Calls Try.prog 47 #[.agg #[.bool a0_0, .bool a0_1, .bool a0_2, .int .i64 a0_3, .string a0_4, .bool a0_5, .int .i64 a0_6, .string a0_7], .agg #[.bool a1_0, .int .i64 a1_1, .string a1_2]] w fun e w' => e = .returned (.agg #[.bool r1, .bool r2, .bool r3, .int .i64 r4, .string r5, .bool r6, .int .i64 r7, .string r8]) ∧ Below w.heap.size w w' := by
  unfold tithebarnref11_add_c.f at h
  split at h
  · rename_i g
    exact tithebarnref11_add.calls 3 a0_0 a0_1 a0_2 a0_3 a0_4 a0_5 a0_6 a0_7 a1_0 a1_1 a1_2 r1 r2 r3 r4 r5 r6 r7 r8 w ((tithebarnref11_add.is ⟨a0_0, a0_1, ⟨a0_2, a0_3, a0_4⟩, ⟨a0_5, a0_6, a0_7⟩⟩ ⟨a1_0, a1_1, a1_2⟩ g.1 g.2).trans h)
  · cases h


end Go.Proofs.Ytnfliommpdjlkaa.Pr
