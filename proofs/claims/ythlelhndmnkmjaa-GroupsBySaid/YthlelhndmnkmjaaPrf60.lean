-- printed by xprint.py
import Derived.Test.YthlelhndmnkmjaaPr0
import Derived.Test.YthlelhndmnkmjaaPrf41
import Derived.Test.YthlelhndmnkmjaaThy
namespace Go.Proofs.Ythlelhndmnkmjaa.Pr
open Go.RowKit Go.Proofs.YthlelhndmnkmjaaW PrintWords PrintLast PrintMore
set_option linter.unusedVariables false
set_option linter.unusedSimpArgs false

/-! ### sums_Join: function 60 -/
mutual
def sums_Join.j0 : Nat → Bool → Int → Int → Int → Bool → Int → ByteArray → Bool → Int → ByteArray → Int → Int → Int → Bool → Int → ByteArray → Bool → Int → ByteArray → Int → Int → Int → Bool → Int → ByteArray → Bool → Int → ByteArray → Option (Int × Int × Int × Bool × Int × ByteArray × Bool × Int × ByteArray)
 | 0, _, _, _, _, _, _, _, _, _, _, _, _, _, _, _, _, _, _, _, _, _, _, _, _, _, _, _, _ => none
 | k + 1, x46, x126000, x126001, x126002, x126003, x126004, x126005, x126006, x126007, x126008, x127000, x127001, x127002, x127003, x127004, x127005, x127006, x127007, x127008, x129000, x129001, x129002, x129003, x129004, x129005, x129006, x129007, x129008 => if x46 = true then (some (x129000, x129001, x129002, x129003, x129004, x129005, x129006, x129007, x129008)) else (if x126002 ≤ 0 then (some (x129000, x129001, x129002, x127003, x127004, x127005, x127006, x127007, x127008)) else (if x127002 ≤ 0 then (some (x129000, x129001, x129002, x126003, x126004, x126005, x126006, x126007, x126008)) else ((kinds_Compare_c.f x127003 x127004 x127005 x126003 x126004 x126005).bind fun t129 => (if t129 < 0 then (sums_Join.j1 k x126000 x126001 x126002 x126003 x126004 x126005 x126006 x126007 x126008 x127000 x127001 x127002 x127003 x127004 x127005 x127006 x127007 x127008 x129000 x129001 x129002 x127003 x127004 x127005 x126006 x126007 x126008) else (sums_Join.j1 k x126000 x126001 x126002 x126003 x126004 x126005 x126006 x126007 x126008 x127000 x127001 x127002 x127003 x127004 x127005 x127006 x127007 x127008 x129000 x129001 x129002 x126003 x126004 x126005 x126006 x126007 x126008)))))
def sums_Join.j1 : Nat → Int → Int → Int → Bool → Int → ByteArray → Bool → Int → ByteArray → Int → Int → Int → Bool → Int → ByteArray → Bool → Int → ByteArray → Int → Int → Int → Bool → Int → ByteArray → Bool → Int → ByteArray → Option (Int × Int × Int × Bool × Int × ByteArray × Bool × Int × ByteArray)
 | 0, _, _, _, _, _, _, _, _, _, _, _, _, _, _, _, _, _, _, _, _, _, _, _, _, _, _, _ => none
 | k + 1, x126000, x126001, x126002, x126003, x126004, x126005, x126006, x126007, x126008, x127000, x127001, x127002, x127003, x127004, x127005, x127006, x127007, x127008, x129000, x129001, x129002, x129003, x129004, x129005, x129006, x129007, x129008 => (kinds_Compare_c.f x127006 x127007 x127008 x126006 x126007 x126008).bind fun t130 => (if t130 > 0 then (some (x129000, x129001, x129002, x129003, x129004, x129005, x127006, x127007, x127008)) else (some (x129000, x129001, x129002, x129003, x129004, x129005, x129006, x129007, x129008)))
end
def sums_Join.f (k : Nat) (a0_0 : Int) (a0_1 : Int) (a0_2 : Int) (a0_3 : Bool) (a0_4 : Int) (a0_5 : ByteArray) (a0_6 : Bool) (a0_7 : Int) (a0_8 : ByteArray) (a1_0 : Int) (a1_1 : Int) (a1_2 : Int) (a1_3 : Bool) (a1_4 : Int) (a1_5 : ByteArray) (a1_6 : Bool) (a1_7 : Int) (a1_8 : ByteArray) : Option (Int × Int × Int × Bool × Int × ByteArray × Bool × Int × ByteArray) := if a0_2 ≤ 0 then (sums_Join.j0 k (decide (a1_2 ≤ 0)) a0_0 a0_1 a0_2 a0_3 a0_4 a0_5 a0_6 a0_7 a0_8 a1_0 a1_1 a1_2 a1_3 a1_4 a1_5 a1_6 a1_7 a1_8 (wrap64 (a0_0 + a1_0)) (wrap64 (a0_1 + a1_1)) (wrap64 (a0_2 + a1_2)) false 0 (⟨#[]⟩ : ByteArray) false 0 (⟨#[]⟩ : ByteArray)) else (sums_Join.j0 k false a0_0 a0_1 a0_2 a0_3 a0_4 a0_5 a0_6 a0_7 a0_8 a1_0 a1_1 a1_2 a1_3 a1_4 a1_5 a1_6 a1_7 a1_8 (wrap64 (a0_0 + a1_0)) (wrap64 (a0_1 + a1_1)) (wrap64 (a0_2 + a1_2)) false 0 (⟨#[]⟩ : ByteArray) false 0 (⟨#[]⟩ : ByteArray))
theorem sums_Join.mono_l : ∀ k, (∀ y0 y1 y2 y3 y4 y5 y6 y7 y8 y9 y10 y11 y12 y13 y14 y15 y16 y17 y18 y19 y20 y21 y22 y23 y24 y25 y26 y27, LeO (sums_Join.j0 k y0 y1 y2 y3 y4 y5 y6 y7 y8 y9 y10 y11 y12 y13 y14 y15 y16 y17 y18 y19 y20 y21 y22 y23 y24 y25 y26 y27) (sums_Join.j0 (k + 1) y0 y1 y2 y3 y4 y5 y6 y7 y8 y9 y10 y11 y12 y13 y14 y15 y16 y17 y18 y19 y20 y21 y22 y23 y24 y25 y26 y27)) ∧ (∀ y0 y1 y2 y3 y4 y5 y6 y7 y8 y9 y10 y11 y12 y13 y14 y15 y16 y17 y18 y19 y20 y21 y22 y23 y24 y25 y26, LeO (sums_Join.j1 k y0 y1 y2 y3 y4 y5 y6 y7 y8 y9 y10 y11 y12 y13 y14 y15 y16 y17 y18 y19 y20 y21 y22 y23 y24 y25 y26) (sums_Join.j1 (k + 1) y0 y1 y2 y3 y4 y5 y6 y7 y8 y9 y10 y11 y12 y13 y14 y15 y16 y17 y18 y19 y20 y21 y22 y23 y24 y25 y26))
 | 0 => ⟨fun _ _ _ _ _ _ _ _ _ _ _ _ _ _ _ _ _ _ _ _ _ _ _ _ _ _ _ _ r h => by simp [sums_Join.j0] at h, fun _ _ _ _ _ _ _ _ _ _ _ _ _ _ _ _ _ _ _ _ _ _ _ _ _ _ _ r h => by simp [sums_Join.j1] at h⟩
 | k + 1 => by
  obtain ⟨ih0, ih1⟩ := sums_Join.mono_l k
  refine ⟨?_, ?_⟩
  ·intro y0 y1 y2 y3 y4 y5 y6 y7 y8 y9 y10 y11 y12 y13 y14 y15 y16 y17 y18 y19 y20 y21 y22 y23 y24 y25 y26 y27
   unfold sums_Join.j0
   repeat' first
   | (with_reducible exact ih0 _ _ _ _ _ _ _ _ _ _ _ _ _ _ _ _ _ _ _ _ _ _ _ _ _ _ _ _)
   | (with_reducible exact ih1 _ _ _ _ _ _ _ _ _ _ _ _ _ _ _ _ _ _ _ _ _ _ _ _ _ _ _)
   | (with_reducible exact LeO.refl _)
   | (with_reducible exact LeO.none _)
   | (with_reducible refine LeO.ite ?_ ?_)
   | (with_reducible refine LeO.bind ?_ (fun _ => ?_))
  ·intro y0 y1 y2 y3 y4 y5 y6 y7 y8 y9 y10 y11 y12 y13 y14 y15 y16 y17 y18 y19 y20 y21 y22 y23 y24 y25 y26
   unfold sums_Join.j1
   repeat' first
   | (with_reducible exact ih0 _ _ _ _ _ _ _ _ _ _ _ _ _ _ _ _ _ _ _ _ _ _ _ _ _ _ _ _)
   | (with_reducible exact ih1 _ _ _ _ _ _ _ _ _ _ _ _ _ _ _ _ _ _ _ _ _ _ _ _ _ _ _)
   | (with_reducible exact LeO.refl _)
   | (with_reducible exact LeO.none _)
   | (with_reducible refine LeO.ite ?_ ?_)
   | (with_reducible refine LeO.bind ?_ (fun _ => ?_))
theorem sums_Join.mono : ∀ a0 a1 a2 a3 a4 a5 a6 a7 a8 a9 a10 a11 a12 a13 a14 a15 a16 a17 k, LeO (sums_Join.f k a0 a1 a2 a3 a4 a5 a6 a7 a8 a9 a10 a11 a12 a13 a14 a15 a16 a17) (sums_Join.f (k + 1) a0 a1 a2 a3 a4 a5 a6 a7 a8 a9 a10 a11 a12 a13 a14 a15 a16 a17) := by
 intro a0 a1 a2 a3 a4 a5 a6 a7 a8 a9 a10 a11 a12 a13 a14 a15 a16 a17 k
 obtain ⟨ih0, ih1⟩ := sums_Join.mono_l k
 unfold sums_Join.f
 repeat' first
   | (with_reducible exact ih0 _ _ _ _ _ _ _ _ _ _ _ _ _ _ _ _ _ _ _ _ _ _ _ _ _ _ _ _)
   | (with_reducible exact ih1 _ _ _ _ _ _ _ _ _ _ _ _ _ _ _ _ _ _ _ _ _ _ _ _ _ _ _)
   | (with_reducible exact LeO.refl _)
   | (with_reducible exact LeO.none _)
   | (with_reducible refine LeO.ite ?_ ?_)
   | (with_reducible refine LeO.bind ?_ (fun _ => ?_))
def sums_Join.T2 : Bool × List (List Nat × List Nat) := (true, [([], []), ([0], [0]), ([], []), ([2], [2]), ([0, 1], []), ([4, 1, 0, 1], [1, 4]), ([0, 1, 2, 3, 4, 5], []), ([6, 3, 5, 0, 1, 2, 3, 4, 5], [3, 6])])
def sums_Join.B2 : List Nat := [0, 1, 0, 4, 3, 19, 63, 127]
theorem sums_Join.tab2 : rtab .any (opsOf Try.f60 2) = sums_Join.T2 := by kernel_rfl
theorem sums_Join.bits2 : waitsOk sums_Join.T2.2 sums_Join.B2 = true := by kernel_rfl
def sums_Join.T9 : Bool × List (List Nat × List Nat) := (true, [([], []), ([0], [0]), ([], []), ([2], [2]), ([0, 1], []), ([4, 1, 0, 1], [1, 4]), ([0, 1, 2, 3, 4, 5], []), ([6, 3, 5, 0, 1, 2, 3, 4, 5], [3, 6])])
def sums_Join.B9 : List Nat := [0, 1, 0, 4, 3, 19, 63, 127]
theorem sums_Join.tab9 : rtab .any (opsOf Try.f60 9) = sums_Join.T9 := by kernel_rfl
theorem sums_Join.bits9 : waitsOk sums_Join.T9.2 sums_Join.B9 = true := by kernel_rfl
def sums_Join.T11 : Bool × List (List Nat × List Nat) := (true, [([], []), ([0], [0]), ([], []), ([2], [2]), ([0, 1], []), ([4, 1, 0, 1], [1, 4]), ([0, 1, 2, 3, 4, 5], []), ([6, 3, 5, 0, 1, 2, 3, 4, 5], [3, 6])])
def sums_Join.B11 : List Nat := [0, 1, 0, 4, 3, 19, 63, 127]
theorem sums_Join.tab11 : rtab .any (opsOf Try.f60 11) = sums_Join.T11 := by kernel_rfl
theorem sums_Join.bits11 : waitsOk sums_Join.T11.2 sums_Join.B11 = true := by kernel_rfl
set_option maxHeartbeats 8000000 in
set_option maxRecDepth 100000 in
theorem sums_Join.calls (k : Nat) (a0_0 : Int) (a0_1 : Int) (a0_2 : Int) (a0_3 : Bool) (a0_4 : Int) (a0_5 : ByteArray) (a0_6 : Bool) (a0_7 : Int) (a0_8 : ByteArray) (a1_0 : Int) (a1_1 : Int) (a1_2 : Int) (a1_3 : Bool) (a1_4 : Int) (a1_5 : ByteArray) (a1_6 : Bool) (a1_7 : Int) (a1_8 : ByteArray) (r1 : Int) (r2 : Int) (r3 : Int) (r4 : Bool) (r5 : Int) (r6 : ByteArray) (r7 : Bool) (r8 : Int) (r9 : ByteArray) (w : World) (h : sums_Join.f k a0_0 a0_1 a0_2 a0_3 a0_4 a0_5 a0_6 a0_7 a0_8 a1_0 a1_1 a1_2 a1_3 a1_4 a1_5 a1_6 a1_7 a1_8 = some (r1, r2, r3, r4, r5, r6, r7, r8, r9)) :
  Calls Try.prog 60 #[.agg #[.int .i64 a0_0, .int .i64 a0_1, .int .i64 a0_2, .bool a0_3, .int .i64 a0_4, .string a0_5, .bool a0_6, .int .i64 a0_7, .string a0_8], .agg #[.int .i64 a1_0, .int .i64 a1_1, .int .i64 a1_2, .bool a1_3, .int .i64 a1_4, .string a1_5, .bool a1_6, .int .i64 a1_7, .string a1_8]] w fun e w' => e = .returned (.agg #[.int .i64 r1, .int .i64 r2, .int .i64 r3, .bool r4, .int .i64 r5, .string r6, .bool r7, .int .i64 r8, .string r9]) ∧ Below w.heap.size w w' := by
 have hu47 := Try.underlying47
 have hu37 := Try.underlying37
 have HB := Aside0.mk (Below.refl w.heap.size w)
 have H : (if a0_2 ≤ 0 then (sums_Join.j0 k (decide (a1_2 ≤ 0)) a0_0 a0_1 a0_2 a0_3 a0_4 a0_5 a0_6 a0_7 a0_8 a1_0 a1_1 a1_2 a1_3 a1_4 a1_5 a1_6 a1_7 a1_8 (wrap64 (a0_0 + a1_0)) (wrap64 (a0_1 + a1_1)) (wrap64 (a0_2 + a1_2)) false 0 (⟨#[]⟩ : ByteArray) false 0 (⟨#[]⟩ : ByteArray)) else (sums_Join.j0 k false a0_0 a0_1 a0_2 a0_3 a0_4 a0_5 a0_6 a0_7 a0_8 a1_0 a1_1 a1_2 a1_3 a1_4 a1_5 a1_6 a1_7 a1_8 (wrap64 (a0_0 + a1_0)) (wrap64 (a0_1 + a1_1)) (wrap64 (a0_2 + a1_2)) false 0 (⟨#[]⟩ : ByteArray) false 0 (⟨#[]⟩ : ByteArray))) = some (r1, r2, r3, r4, r5, r6, r7, r8, r9) := h
 clear h
 have HC3 := Aside0.mk H
 clear H
 go_enter Try.func60, Try.ntmps60
 go_upto_region 7 with (first | ((with_reducible refine gate_dst (N := 2) rfl ?_); refine box_event ?hg (N := 2) ?hd (cs := #[.int .i64 a0_0, .int .i64 a0_1, .int .i64 a0_2, .bool a0_3, .int .i64 a0_4, .string a0_5, .bool a0_6, .int .i64 a0_7, .string a0_8]) (t := 47) ?hr ?_; (case hd => rfl); (case hg => rfl); (case hr => first | (go_simp; done) | (go_simp; rfl)); intro gb125 hg w4 hbox hb; have n0_ := Aside0.mk (below_step (by with_reducible repeat first | exact HB.out | apply below_alloc | apply pw_below_drewN | apply below_drew1) hb); have n1_ := Aside0.mk (hbox); have n2_ := Aside0.mk ((by rw [hg]; exact (below_size (by with_reducible repeat first | exact HB.out | apply below_alloc | apply pw_below_drewN | apply below_drew1)) : w.heap.size ≤ gb125)); have n3_ := Aside0.mk ((by rw [hg]; exact (below_size (by with_reducible repeat first | exact HB.out | apply below_alloc | apply pw_below_drewN | apply below_drew1)) : w.heap.size ≤ gb125)); clear HB; have HB := n0_; have BK125 := n1_; have GW125 := n2_; have GE125 := n3_; clear n0_ n1_ n2_ n3_; clear hb hbox hg) | ((with_reducible refine gate_dst (N := 3) rfl ?_); refine box_event ?hg (N := 3) ?hd (cs := #[.int .i64 a1_0, .int .i64 a1_1, .int .i64 a1_2, .bool a1_3, .int .i64 a1_4, .string a1_5, .bool a1_6, .int .i64 a1_7, .string a1_8]) (t := 47) ?hr ?_; (case hd => rfl); (case hg => rfl); (case hr => first | (go_simp; done) | (go_simp; rfl)); intro gb126 hg w5 hbox hb; have n0_ := Aside0.mk (blk_below (g := gb125) (o := .cells #[.int .i64 a0_0, .int .i64 a0_1, .int .i64 a0_2, .bool a0_3, .int .i64 a0_4, .string a0_5, .bool a0_6, .int .i64 a0_7, .string a0_8] 47 (0, 0)) (by (with_reducible repeat (first | refine blk_drewN ?_ _ | refine blk_drew ?_ | refine blk_alloc ?_ _)); exact BK125.out) hb); have n1_ := Aside0.mk (below_step (by with_reducible repeat first | exact HB.out | apply below_alloc | apply pw_below_drewN | apply below_drew1 | refine below_set ?_ GE125.out) hb); have n2_ := Aside0.mk (hbox); have n3_ := Aside0.mk ((by rw [hg]; exact (below_size (by with_reducible repeat first | exact HB.out | apply below_alloc | apply pw_below_drewN | apply below_drew1 | refine below_set ?_ GE125.out)) : w.heap.size ≤ gb126)); have n4_ := Aside0.mk ((by rw [hg]; exact (below_size (by with_reducible repeat first | exact HB.out | apply below_alloc | apply pw_below_drewN | apply below_drew1 | refine below_set ?_ GE125.out)) : w.heap.size ≤ gb126)); have n5_ := Aside0.mk ((by rw [hg]; exact Nat.ne_of_lt (blk_lt (g := gb125) (o := .cells #[.int .i64 a0_0, .int .i64 a0_1, .int .i64 a0_2, .bool a0_3, .int .i64 a0_4, .string a0_5, .bool a0_6, .int .i64 a0_7, .string a0_8] 47 (0, 0)) (by (with_reducible repeat (first | refine blk_drewN ?_ _ | refine blk_drew ?_ | refine blk_alloc ?_ _)); exact BK125.out)) : gb125 ≠ gb126)); have n6_ := Aside0.mk ((by rw [hg]; exact Nat.ne_of_gt (blk_lt (g := gb125) (o := .cells #[.int .i64 a0_0, .int .i64 a0_1, .int .i64 a0_2, .bool a0_3, .int .i64 a0_4, .string a0_5, .bool a0_6, .int .i64 a0_7, .string a0_8] 47 (0, 0)) (by (with_reducible repeat (first | refine blk_drewN ?_ _ | refine blk_drew ?_ | refine blk_alloc ?_ _)); exact BK125.out)) : gb126 ≠ gb125)); clear BK125; clear HB; have BK125 := n0_; have HB := n1_; have BK126 := n2_; have GW126 := n3_; have GE126 := n4_; have NB125_126 := n5_; have NB126_125 := n6_; clear n0_ n1_ n2_ n3_ n4_ n5_ n6_; clear hb hbox hg) | ((with_reducible refine gate_dst (N := 4) rfl ?_); refine box_event ?hg (N := 4) ?hd (cs := #[.int .i64 0, .int .i64 0, .int .i64 0, .bool false, .int .i64 0, .string (⟨#[]⟩ : ByteArray), .bool false, .int .i64 0, .string (⟨#[]⟩ : ByteArray)]) (t := 47) ?hr ?_; (case hd => rfl); (case hg => rfl); (case hr => first | (go_simp; done) | (go_simp; rfl)); intro gb127 hg w6 hbox hb; have n0_ := Aside0.mk (blk_below (g := gb125) (o := .cells #[.int .i64 a0_0, .int .i64 a0_1, .int .i64 a0_2, .bool a0_3, .int .i64 a0_4, .string a0_5, .bool a0_6, .int .i64 a0_7, .string a0_8] 47 (0, 0)) (by (with_reducible repeat (first | refine blk_drewN ?_ _ | refine blk_drew ?_ | refine blk_alloc ?_ _)); exact BK125.out) hb); have n1_ := Aside0.mk (blk_below (g := gb126) (o := .cells #[.int .i64 a1_0, .int .i64 a1_1, .int .i64 a1_2, .bool a1_3, .int .i64 a1_4, .string a1_5, .bool a1_6, .int .i64 a1_7, .string a1_8] 47 (0, 0)) (by (with_reducible repeat (first | refine blk_drewN ?_ _ | refine blk_drew ?_ | refine blk_alloc ?_ _)); exact BK126.out) hb); have n2_ := Aside0.mk (below_step (by with_reducible repeat first | exact HB.out | apply below_alloc | apply pw_below_drewN | apply below_drew1 | refine below_set ?_ GE125.out | refine below_set ?_ GE126.out) hb); have n3_ := Aside0.mk (hbox); have n4_ := Aside0.mk ((by rw [hg]; exact (below_size (by with_reducible repeat first | exact HB.out | apply below_alloc | apply pw_below_drewN | apply below_drew1 | refine below_set ?_ GE125.out | refine below_set ?_ GE126.out)) : w.heap.size ≤ gb127)); have n5_ := Aside0.mk ((by rw [hg]; exact (below_size (by with_reducible repeat first | exact HB.out | apply below_alloc | apply pw_below_drewN | apply below_drew1 | refine below_set ?_ GE125.out | refine below_set ?_ GE126.out)) : w.heap.size ≤ gb127)); have n6_ := Aside0.mk ((by rw [hg]; exact Nat.ne_of_lt (blk_lt (g := gb125) (o := .cells #[.int .i64 a0_0, .int .i64 a0_1, .int .i64 a0_2, .bool a0_3, .int .i64 a0_4, .string a0_5, .bool a0_6, .int .i64 a0_7, .string a0_8] 47 (0, 0)) (by (with_reducible repeat (first | refine blk_drewN ?_ _ | refine blk_drew ?_ | refine blk_alloc ?_ _)); exact BK125.out)) : gb125 ≠ gb127)); have n7_ := Aside0.mk ((by rw [hg]; exact Nat.ne_of_gt (blk_lt (g := gb125) (o := .cells #[.int .i64 a0_0, .int .i64 a0_1, .int .i64 a0_2, .bool a0_3, .int .i64 a0_4, .string a0_5, .bool a0_6, .int .i64 a0_7, .string a0_8] 47 (0, 0)) (by (with_reducible repeat (first | refine blk_drewN ?_ _ | refine blk_drew ?_ | refine blk_alloc ?_ _)); exact BK125.out)) : gb127 ≠ gb125)); have n8_ := Aside0.mk ((by rw [hg]; exact Nat.ne_of_lt (blk_lt (g := gb126) (o := .cells #[.int .i64 a1_0, .int .i64 a1_1, .int .i64 a1_2, .bool a1_3, .int .i64 a1_4, .string a1_5, .bool a1_6, .int .i64 a1_7, .string a1_8] 47 (0, 0)) (by (with_reducible repeat (first | refine blk_drewN ?_ _ | refine blk_drew ?_ | refine blk_alloc ?_ _)); exact BK126.out)) : gb126 ≠ gb127)); have n9_ := Aside0.mk ((by rw [hg]; exact Nat.ne_of_gt (blk_lt (g := gb126) (o := .cells #[.int .i64 a1_0, .int .i64 a1_1, .int .i64 a1_2, .bool a1_3, .int .i64 a1_4, .string a1_5, .bool a1_6, .int .i64 a1_7, .string a1_8] 47 (0, 0)) (by (with_reducible repeat (first | refine blk_drewN ?_ _ | refine blk_drew ?_ | refine blk_alloc ?_ _)); exact BK126.out)) : gb127 ≠ gb126)); clear BK125; clear BK126; clear HB; have BK125 := n0_; have BK126 := n1_; have HB := n2_; have BK127 := n3_; have GW127 := n4_; have GE127 := n5_; have NB125_127 := n6_; have NB127_125 := n7_; have NB126_127 := n8_; have NB127_126 := n9_; clear n0_ n1_ n2_ n3_ n4_ n5_ n6_ n7_ n8_ n9_; clear hb hbox hg; have hnb7 := NB125_126.out; have hnc7 := NB126_125.out; have hnb8 := NB125_127.out; have hnc8 := NB127_125.out; obtain ⟨hcz9_0, hcz9_1, hcz9_2, hcz9_3, hcz9_4, hcz9_5, hcz9_6, hcz9_7, hcz9_8⟩ := bc9 BK125.out; obtain ⟨hfz9_0, hfz9_1, hfz9_2, hfz9_3, hfz9_4, hfz9_5, hfz9_6, hfz9_7, hfz9_8⟩ := bf9 BK125.out; have hnb10 := NB126_127.out; have hnc10 := NB127_126.out; obtain ⟨hcz11_0, hcz11_1, hcz11_2, hcz11_3, hcz11_4, hcz11_5, hcz11_6, hcz11_7, hcz11_8⟩ := bc9 BK126.out; obtain ⟨hfz11_0, hfz11_1, hfz11_2, hfz11_3, hfz11_4, hfz11_5, hfz11_6, hfz11_7, hfz11_8⟩ := bf9 BK126.out) | ((with_reducible refine gate_dst (N := 5) rfl ?_); refine box_event ?hg (N := 5) ?hd (cs := #[.int .i64 0, .int .i64 0, .int .i64 0, .bool false, .int .i64 0, .string (⟨#[]⟩ : ByteArray), .bool false, .int .i64 0, .string (⟨#[]⟩ : ByteArray)]) (t := 47) ?hr ?_; (case hd => rfl); (case hg => rfl); (case hr => first | (go_simp; done) | (go_simp; rfl)); intro gb128 hg w12 hbox hb; have n0_ := Aside0.mk (blk_below (g := gb125) (o := .cells #[.int .i64 a0_0, .int .i64 a0_1, .int .i64 a0_2, .bool a0_3, .int .i64 a0_4, .string a0_5, .bool a0_6, .int .i64 a0_7, .string a0_8] 47 (0, 0)) (by (with_reducible repeat (first | refine blk_drewN ?_ _ | refine blk_drew ?_ | refine blk_alloc ?_ _)); exact BK125.out) hb); have n1_ := Aside0.mk (blk_below (g := gb126) (o := .cells #[.int .i64 a1_0, .int .i64 a1_1, .int .i64 a1_2, .bool a1_3, .int .i64 a1_4, .string a1_5, .bool a1_6, .int .i64 a1_7, .string a1_8] 47 (0, 0)) (by (with_reducible repeat (first | refine blk_drewN ?_ _ | refine blk_drew ?_ | refine blk_alloc ?_ _)); exact BK126.out) hb); have n2_ := Aside0.mk (blk_below (g := gb127) (o := .cells #[.int .i64 0, .int .i64 0, .int .i64 0, .bool false, .int .i64 0, .string (⟨#[]⟩ : ByteArray), .bool false, .int .i64 0, .string (⟨#[]⟩ : ByteArray)] 47 (0, 0)) (by (with_reducible repeat (first | refine blk_drewN ?_ _ | refine blk_drew ?_ | refine blk_alloc ?_ _)); exact BK127.out) hb); have n3_ := Aside0.mk (below_step (by with_reducible repeat first | exact HB.out | apply below_alloc | apply pw_below_drewN | apply below_drew1 | refine below_set ?_ GE125.out | refine below_set ?_ GE126.out | refine below_set ?_ GE127.out) hb); have n4_ := Aside0.mk (hbox); have n5_ := Aside0.mk ((by rw [hg]; exact (below_size (by with_reducible repeat first | exact HB.out | apply below_alloc | apply pw_below_drewN | apply below_drew1 | refine below_set ?_ GE125.out | refine below_set ?_ GE126.out | refine below_set ?_ GE127.out)) : w.heap.size ≤ gb128)); have n6_ := Aside0.mk ((by rw [hg]; exact (below_size (by with_reducible repeat first | exact HB.out | apply below_alloc | apply pw_below_drewN | apply below_drew1 | refine below_set ?_ GE125.out | refine below_set ?_ GE126.out | refine below_set ?_ GE127.out)) : w.heap.size ≤ gb128)); have n7_ := Aside0.mk ((by rw [hg]; exact Nat.ne_of_lt (blk_lt (g := gb125) (o := .cells #[.int .i64 a0_0, .int .i64 a0_1, .int .i64 a0_2, .bool a0_3, .int .i64 a0_4, .string a0_5, .bool a0_6, .int .i64 a0_7, .string a0_8] 47 (0, 0)) (by (with_reducible repeat (first | refine blk_drewN ?_ _ | refine blk_drew ?_ | refine blk_alloc ?_ _)); exact BK125.out)) : gb125 ≠ gb128)); have n8_ := Aside0.mk ((by rw [hg]; exact Nat.ne_of_gt (blk_lt (g := gb125) (o := .cells #[.int .i64 a0_0, .int .i64 a0_1, .int .i64 a0_2, .bool a0_3, .int .i64 a0_4, .string a0_5, .bool a0_6, .int .i64 a0_7, .string a0_8] 47 (0, 0)) (by (with_reducible repeat (first | refine blk_drewN ?_ _ | refine blk_drew ?_ | refine blk_alloc ?_ _)); exact BK125.out)) : gb128 ≠ gb125)); have n9_ := Aside0.mk ((by rw [hg]; exact Nat.ne_of_lt (blk_lt (g := gb126) (o := .cells #[.int .i64 a1_0, .int .i64 a1_1, .int .i64 a1_2, .bool a1_3, .int .i64 a1_4, .string a1_5, .bool a1_6, .int .i64 a1_7, .string a1_8] 47 (0, 0)) (by (with_reducible repeat (first | refine blk_drewN ?_ _ | refine blk_drew ?_ | refine blk_alloc ?_ _)); exact BK126.out)) : gb126 ≠ gb128)); have n10_ := Aside0.mk ((by rw [hg]; exact Nat.ne_of_gt (blk_lt (g := gb126) (o := .cells #[.int .i64 a1_0, .int .i64 a1_1, .int .i64 a1_2, .bool a1_3, .int .i64 a1_4, .string a1_5, .bool a1_6, .int .i64 a1_7, .string a1_8] 47 (0, 0)) (by (with_reducible repeat (first | refine blk_drewN ?_ _ | refine blk_drew ?_ | refine blk_alloc ?_ _)); exact BK126.out)) : gb128 ≠ gb126)); have n11_ := Aside0.mk ((by rw [hg]; exact Nat.ne_of_lt (blk_lt (g := gb127) (o := .cells #[.int .i64 0, .int .i64 0, .int .i64 0, .bool false, .int .i64 0, .string (⟨#[]⟩ : ByteArray), .bool false, .int .i64 0, .string (⟨#[]⟩ : ByteArray)] 47 (0, 0)) (by (with_reducible repeat (first | refine blk_drewN ?_ _ | refine blk_drew ?_ | refine blk_alloc ?_ _)); exact BK127.out)) : gb127 ≠ gb128)); have n12_ := Aside0.mk ((by rw [hg]; exact Nat.ne_of_gt (blk_lt (g := gb127) (o := .cells #[.int .i64 0, .int .i64 0, .int .i64 0, .bool false, .int .i64 0, .string (⟨#[]⟩ : ByteArray), .bool false, .int .i64 0, .string (⟨#[]⟩ : ByteArray)] 47 (0, 0)) (by (with_reducible repeat (first | refine blk_drewN ?_ _ | refine blk_drew ?_ | refine blk_alloc ?_ _)); exact BK127.out)) : gb128 ≠ gb127)); clear BK125; clear BK126; clear BK127; clear HB; have BK125 := n0_; have BK126 := n1_; have BK127 := n2_; have HB := n3_; have BK128 := n4_; have GW128 := n5_; have GE128 := n6_; have NB125_128 := n7_; have NB128_125 := n8_; have NB126_128 := n9_; have NB128_126 := n10_; have NB127_128 := n11_; have NB128_127 := n12_; clear n0_ n1_ n2_ n3_ n4_ n5_ n6_ n7_ n8_ n9_ n10_ n11_ n12_; clear hb hbox hg; have hnb13 := NB128_125.out; have hnc13 := NB125_128.out; have hnb14 := NB128_126.out; have hnc14 := NB126_128.out; have hnb15 := NB128_127.out; have hnc15 := NB127_128.out; obtain ⟨hcz16_0, hcz16_1, hcz16_2, hcz16_3, hcz16_4, hcz16_5, hcz16_6, hcz16_7, hcz16_8⟩ := bc9 BK128.out; obtain ⟨hfz16_0, hfz16_1, hfz16_2, hfz16_3, hfz16_4, hfz16_5, hfz16_6, hfz16_7, hfz16_8⟩ := bf9 BK128.out))
 (try simp only [Act.put, List.setIfInBounds_toArray, List.set_cons_zero, List.set_cons_succ])
 go_cut [46] (fun v46 wc => ∃ (kq : Nat) (x46_2 : Bool), v46 = .bool x46_2 ∧ Aside0 (sums_Join.j0 kq x46_2 a0_0 a0_1 a0_2 a0_3 a0_4 a0_5 a0_6 a0_7 a0_8 a1_0 a1_1 a1_2 a1_3 a1_4 a1_5 a1_6 a1_7 a1_8 (wrap64 (a0_0 + a1_0)) (wrap64 (a0_1 + a1_1)) (wrap64 (a0_2 + a1_2)) false 0 (⟨#[]⟩ : ByteArray) false 0 (⟨#[]⟩ : ByteArray) = some (r1, r2, r3, r4, r5, r6, r7, r8, r9)) ∧ Aside0 (kq ≤ k) ∧ Aside0 (wc.heap[gb125]? = some (.cells #[.int .i64 a0_0, .int .i64 a0_1, .int .i64 a0_2, .bool a0_3, .int .i64 a0_4, .string a0_5, .bool a0_6, .int .i64 a0_7, .string a0_8] 47 (0, 0))) ∧ Aside0 (wc.heap[gb126]? = some (.cells #[.int .i64 a1_0, .int .i64 a1_1, .int .i64 a1_2, .bool a1_3, .int .i64 a1_4, .string a1_5, .bool a1_6, .int .i64 a1_7, .string a1_8] 47 (0, 0))) ∧ Aside0 (wc.heap[gb127]? = some (.cells #[.int .i64 0, .int .i64 0, .int .i64 0, .bool false, .int .i64 0, .string (⟨#[]⟩ : ByteArray), .bool false, .int .i64 0, .string (⟨#[]⟩ : ByteArray)] 47 (0, 0))) ∧ Aside0 (wc.heap[gb128]? = some (.cells #[.int .i64 (wrap64 (a0_0 + a1_0)), .int .i64 (wrap64 (a0_1 + a1_1)), .int .i64 (wrap64 (a0_2 + a1_2)), .bool false, .int .i64 0, .string (⟨#[]⟩ : ByteArray), .bool false, .int .i64 0, .string (⟨#[]⟩ : ByteArray)] 47 (0, 0))) ∧ Aside0 (Below w.heap.size w wc))
 case first =>
  have H := HC3.out
  clear HC3
  by_cases c17 : a0_2 ≤ 0
  ·rw [if_pos c17] at H
   have c17b0 : decide (a0_2 ≤ 0) = true := decide_eq_true c17
   clear c17
   (first | rw [c17b0] | (simp only [i64_w, i32_w]; rw [c17b0]) | skip)
   have H' := Aside0.mk H
   clear H
   have hnb18 := NB125_126.out
   have hnc18 := NB126_125.out
   have hnb19 := NB125_127.out
   have hnc19 := NB127_125.out
   have hnb20 := NB125_128.out
   have hnc20 := NB128_125.out
   obtain ⟨hcz21_0, hcz21_1, hcz21_2, hcz21_3, hcz21_4, hcz21_5, hcz21_6, hcz21_7, hcz21_8⟩ := bc9 BK125.out
   obtain ⟨hfz21_0, hfz21_1, hfz21_2, hfz21_3, hfz21_4, hfz21_5, hfz21_6, hfz21_7, hfz21_8⟩ := bf9 BK125.out
   have hnb22 := NB126_127.out
   have hnc22 := NB127_126.out
   have hnb23 := NB126_128.out
   have hnc23 := NB128_126.out
   obtain ⟨hcz24_0, hcz24_1, hcz24_2, hcz24_3, hcz24_4, hcz24_5, hcz24_6, hcz24_7, hcz24_8⟩ := bc9 BK126.out
   obtain ⟨hfz24_0, hfz24_1, hfz24_2, hfz24_3, hfz24_4, hfz24_5, hfz24_6, hfz24_7, hfz24_8⟩ := bf9 BK126.out
   go_wp2
   go_meet
   case rel => exact ⟨_, (decide (a1_2 ≤ 0)), (by first | rfl | (simp; done) | (simp [*]; done)), H', ⟨by first | omega | exact Nat.le_refl _⟩, ⟨by (iterate 9 (refine blk_far ?_ NB125_128.out _)); (with_reducible repeat (first | refine blk_drewN ?_ _ | refine blk_drew ?_ | refine blk_alloc ?_ _)); exact BK125.out⟩, ⟨by (iterate 9 (refine blk_far ?_ NB126_128.out _)); (with_reducible repeat (first | refine blk_drewN ?_ _ | refine blk_drew ?_ | refine blk_alloc ?_ _)); exact BK126.out⟩, ⟨by (iterate 9 (refine blk_far ?_ NB127_128.out _)); (with_reducible repeat (first | refine blk_drewN ?_ _ | refine blk_drew ?_ | refine blk_alloc ?_ _)); exact BK127.out⟩, ⟨by refine blk_put (cs := #[.int .i64 (wrap64 (a0_0 + a1_0)), .int .i64 (wrap64 (a0_1 + a1_1)), .int .i64 (wrap64 (a0_2 + a1_2)), .bool false, .int .i64 0, .string (⟨#[]⟩ : ByteArray), .bool false, .int .i64 0, .string (⟨#[]⟩ : ByteArray)]) ?_ 8 _ rfl; refine blk_put (cs := #[.int .i64 (wrap64 (a0_0 + a1_0)), .int .i64 (wrap64 (a0_1 + a1_1)), .int .i64 (wrap64 (a0_2 + a1_2)), .bool false, .int .i64 0, .string (⟨#[]⟩ : ByteArray), .bool false, .int .i64 0, .string (⟨#[]⟩ : ByteArray)]) ?_ 7 _ rfl; refine blk_put (cs := #[.int .i64 (wrap64 (a0_0 + a1_0)), .int .i64 (wrap64 (a0_1 + a1_1)), .int .i64 (wrap64 (a0_2 + a1_2)), .bool false, .int .i64 0, .string (⟨#[]⟩ : ByteArray), .bool false, .int .i64 0, .string (⟨#[]⟩ : ByteArray)]) ?_ 6 _ rfl; refine blk_put (cs := #[.int .i64 (wrap64 (a0_0 + a1_0)), .int .i64 (wrap64 (a0_1 + a1_1)), .int .i64 (wrap64 (a0_2 + a1_2)), .bool false, .int .i64 0, .string (⟨#[]⟩ : ByteArray), .bool false, .int .i64 0, .string (⟨#[]⟩ : ByteArray)]) ?_ 5 _ rfl; refine blk_put (cs := #[.int .i64 (wrap64 (a0_0 + a1_0)), .int .i64 (wrap64 (a0_1 + a1_1)), .int .i64 (wrap64 (a0_2 + a1_2)), .bool false, .int .i64 0, .string (⟨#[]⟩ : ByteArray), .bool false, .int .i64 0, .string (⟨#[]⟩ : ByteArray)]) ?_ 4 _ rfl; refine blk_put (cs := #[.int .i64 (wrap64 (a0_0 + a1_0)), .int .i64 (wrap64 (a0_1 + a1_1)), .int .i64 (wrap64 (a0_2 + a1_2)), .bool false, .int .i64 0, .string (⟨#[]⟩ : ByteArray), .bool false, .int .i64 0, .string (⟨#[]⟩ : ByteArray)]) ?_ 3 _ rfl; refine blk_put (cs := #[.int .i64 (wrap64 (a0_0 + a1_0)), .int .i64 (wrap64 (a0_1 + a1_1)), .int .i64 0, .bool false, .int .i64 0, .string (⟨#[]⟩ : ByteArray), .bool false, .int .i64 0, .string (⟨#[]⟩ : ByteArray)]) ?_ 2 _ rfl; refine blk_put (cs := #[.int .i64 (wrap64 (a0_0 + a1_0)), .int .i64 0, .int .i64 0, .bool false, .int .i64 0, .string (⟨#[]⟩ : ByteArray), .bool false, .int .i64 0, .string (⟨#[]⟩ : ByteArray)]) ?_ 1 _ rfl; refine blk_put (cs := #[.int .i64 0, .int .i64 0, .int .i64 0, .bool false, .int .i64 0, .string (⟨#[]⟩ : ByteArray), .bool false, .int .i64 0, .string (⟨#[]⟩ : ByteArray)]) ?_ 0 _ rfl; (with_reducible repeat (first | refine blk_drewN ?_ _ | refine blk_drew ?_ | refine blk_alloc ?_ _)); exact BK128.out⟩, ⟨by repeat (first | (with_reducible first | exact HB.out | apply below_alloc | apply pw_below_drewN | apply below_drew1 | refine below_set ?_ GE125.out | refine below_set ?_ GE126.out | refine below_set ?_ GE127.out | refine below_set ?_ GE128.out) | exact HB.out)⟩⟩
  ·rw [if_neg c17] at H
   have c17b0 : decide (a0_2 ≤ 0) = false := decide_eq_false c17
   clear c17
   (first | rw [c17b0] | (simp only [i64_w, i32_w]; rw [c17b0]) | skip)
   have H' := Aside0.mk H
   clear H
   have hnb25 := NB125_126.out
   have hnc25 := NB126_125.out
   have hnb26 := NB125_127.out
   have hnc26 := NB127_125.out
   have hnb27 := NB125_128.out
   have hnc27 := NB128_125.out
   obtain ⟨hcz28_0, hcz28_1, hcz28_2, hcz28_3, hcz28_4, hcz28_5, hcz28_6, hcz28_7, hcz28_8⟩ := bc9 BK125.out
   obtain ⟨hfz28_0, hfz28_1, hfz28_2, hfz28_3, hfz28_4, hfz28_5, hfz28_6, hfz28_7, hfz28_8⟩ := bf9 BK125.out
   go_wp2
   go_meet
   case rel => exact ⟨_, (false), (by first | rfl | (simp; done) | (simp [*]; done)), H', ⟨by first | omega | exact Nat.le_refl _⟩, ⟨by (iterate 9 (refine blk_far ?_ NB125_128.out _)); (with_reducible repeat (first | refine blk_drewN ?_ _ | refine blk_drew ?_ | refine blk_alloc ?_ _)); exact BK125.out⟩, ⟨by (iterate 9 (refine blk_far ?_ NB126_128.out _)); (with_reducible repeat (first | refine blk_drewN ?_ _ | refine blk_drew ?_ | refine blk_alloc ?_ _)); exact BK126.out⟩, ⟨by (iterate 9 (refine blk_far ?_ NB127_128.out _)); (with_reducible repeat (first | refine blk_drewN ?_ _ | refine blk_drew ?_ | refine blk_alloc ?_ _)); exact BK127.out⟩, ⟨by refine blk_put (cs := #[.int .i64 (wrap64 (a0_0 + a1_0)), .int .i64 (wrap64 (a0_1 + a1_1)), .int .i64 (wrap64 (a0_2 + a1_2)), .bool false, .int .i64 0, .string (⟨#[]⟩ : ByteArray), .bool false, .int .i64 0, .string (⟨#[]⟩ : ByteArray)]) ?_ 8 _ rfl; refine blk_put (cs := #[.int .i64 (wrap64 (a0_0 + a1_0)), .int .i64 (wrap64 (a0_1 + a1_1)), .int .i64 (wrap64 (a0_2 + a1_2)), .bool false, .int .i64 0, .string (⟨#[]⟩ : ByteArray), .bool false, .int .i64 0, .string (⟨#[]⟩ : ByteArray)]) ?_ 7 _ rfl; refine blk_put (cs := #[.int .i64 (wrap64 (a0_0 + a1_0)), .int .i64 (wrap64 (a0_1 + a1_1)), .int .i64 (wrap64 (a0_2 + a1_2)), .bool false, .int .i64 0, .string (⟨#[]⟩ : ByteArray), .bool false, .int .i64 0, .string (⟨#[]⟩ : ByteArray)]) ?_ 6 _ rfl; refine blk_put (cs := #[.int .i64 (wrap64 (a0_0 + a1_0)), .int .i64 (wrap64 (a0_1 + a1_1)), .int .i64 (wrap64 (a0_2 + a1_2)), .bool false, .int .i64 0, .string (⟨#[]⟩ : ByteArray), .bool false, .int .i64 0, .string (⟨#[]⟩ : ByteArray)]) ?_ 5 _ rfl; refine blk_put (cs := #[.int .i64 (wrap64 (a0_0 + a1_0)), .int .i64 (wrap64 (a0_1 + a1_1)), .int .i64 (wrap64 (a0_2 + a1_2)), .bool false, .int .i64 0, .string (⟨#[]⟩ : ByteArray), .bool false, .int .i64 0, .string (⟨#[]⟩ : ByteArray)]) ?_ 4 _ rfl; refine blk_put (cs := #[.int .i64 (wrap64 (a0_0 + a1_0)), .int .i64 (wrap64 (a0_1 + a1_1)), .int .i64 (wrap64 (a0_2 + a1_2)), .bool false, .int .i64 0, .string (⟨#[]⟩ : ByteArray), .bool false, .int .i64 0, .string (⟨#[]⟩ : ByteArray)]) ?_ 3 _ rfl; refine blk_put (cs := #[.int .i64 (wrap64 (a0_0 + a1_0)), .int .i64 (wrap64 (a0_1 + a1_1)), .int .i64 0, .bool false, .int .i64 0, .string (⟨#[]⟩ : ByteArray), .bool false, .int .i64 0, .string (⟨#[]⟩ : ByteArray)]) ?_ 2 _ rfl; refine blk_put (cs := #[.int .i64 (wrap64 (a0_0 + a1_0)), .int .i64 0, .int .i64 0, .bool false, .int .i64 0, .string (⟨#[]⟩ : ByteArray), .bool false, .int .i64 0, .string (⟨#[]⟩ : ByteArray)]) ?_ 1 _ rfl; refine blk_put (cs := #[.int .i64 0, .int .i64 0, .int .i64 0, .bool false, .int .i64 0, .string (⟨#[]⟩ : ByteArray), .bool false, .int .i64 0, .string (⟨#[]⟩ : ByteArray)]) ?_ 0 _ rfl; (with_reducible repeat (first | refine blk_drewN ?_ _ | refine blk_drew ?_ | refine blk_alloc ?_ _)); exact BK128.out⟩, ⟨by repeat (first | (with_reducible first | exact HB.out | apply below_alloc | apply pw_below_drewN | apply below_drew1 | refine below_set ?_ GE125.out | refine below_set ?_ GE126.out | refine below_set ?_ GE127.out | refine below_set ?_ GE128.out) | exact HB.out)⟩⟩
 case rest =>
  clear HC3
  try clear c1
  try clear c2
  try clear p2
  try clear c6
  try clear p6
  try clear c7
  try clear c8
  try clear c10
  try clear c13
  try clear c14
  try clear c15
  try clear c17
  try clear c17b0
  try clear c18
  try clear c19
  try clear c20
  try clear c22
  try clear c23
  try clear c25
  try clear c26
  try clear c27
  try clear hcz11_0 hcz11_1 hcz11_2 hcz11_3 hcz11_4 hcz11_5 hcz11_6 hcz11_7 hcz11_8
  try clear hcz16_0 hcz16_1 hcz16_2 hcz16_3 hcz16_4 hcz16_5 hcz16_6 hcz16_7 hcz16_8
  try clear hcz21_0 hcz21_1 hcz21_2 hcz21_3 hcz21_4 hcz21_5 hcz21_6 hcz21_7 hcz21_8
  try clear hcz24_0 hcz24_1 hcz24_2 hcz24_3 hcz24_4 hcz24_5 hcz24_6 hcz24_7 hcz24_8
  try clear hcz28_0 hcz28_1 hcz28_2 hcz28_3 hcz28_4 hcz28_5 hcz28_6 hcz28_7 hcz28_8
  try clear hcz9_0 hcz9_1 hcz9_2 hcz9_3 hcz9_4 hcz9_5 hcz9_6 hcz9_7 hcz9_8
  try clear hfz11_0 hfz11_1 hfz11_2 hfz11_3 hfz11_4 hfz11_5 hfz11_6 hfz11_7 hfz11_8
  try clear hfz16_0 hfz16_1 hfz16_2 hfz16_3 hfz16_4 hfz16_5 hfz16_6 hfz16_7 hfz16_8
  try clear hfz21_0 hfz21_1 hfz21_2 hfz21_3 hfz21_4 hfz21_5 hfz21_6 hfz21_7 hfz21_8
  try clear hfz24_0 hfz24_1 hfz24_2 hfz24_3 hfz24_4 hfz24_5 hfz24_6 hfz24_7 hfz24_8
  try clear hfz28_0 hfz28_1 hfz28_2 hfz28_3 hfz28_4 hfz28_5 hfz28_6 hfz28_7 hfz28_8
  try clear hfz9_0 hfz9_1 hfz9_2 hfz9_3 hfz9_4 hfz9_5 hfz9_6 hfz9_7 hfz9_8
  obtain ⟨kq, x46_2, rfl, HA, HJ2, BK125, BK126, BK127, BK128, HB⟩ := hcut
  cases kq with
  | zero => exact absurd HA.out (by simp [sums_Join.j0])
  | succ kj2 =>
   have H := HA.out
   clear HA
   simp only [sums_Join.j0] at H
   by_cases c29 : x46_2 = true
   ·subst c29
    have H1 : (some ((wrap64 (a0_0 + a1_0)), (wrap64 (a0_1 + a1_1)), (wrap64 (a0_2 + a1_2)), false, 0, (⟨#[]⟩ : ByteArray), false, 0, (⟨#[]⟩ : ByteArray))) = some (r1, r2, r3, r4, r5, r6, r7, r8, r9) := by rw [if_pos rfl] at H; exact H
    clear H
    have H := H1
    clear H1
    simp only [Option.some.injEq, Prod.mk.injEq] at H
    obtain ⟨rfl, rfl, rfl, rfl, rfl, rfl, rfl, rfl, rfl⟩ := H
    have hnb30 := NB128_125.out
    have hnc30 := NB125_128.out
    have hnb31 := NB128_126.out
    have hnc31 := NB126_128.out
    have hnb32 := NB128_127.out
    have hnc32 := NB127_128.out
    obtain ⟨hcz33_0, hcz33_1, hcz33_2, hcz33_3, hcz33_4, hcz33_5, hcz33_6, hcz33_7, hcz33_8⟩ := bc9 BK128.out
    obtain ⟨hfz33_0, hfz33_1, hfz33_2, hfz33_3, hfz33_4, hfz33_5, hfz33_6, hfz33_7, hfz33_8⟩ := bf9 BK128.out
    have hnb34 := NB127_125.out
    have hnc34 := NB125_127.out
    have hnb35 := NB127_126.out
    have hnc35 := NB126_127.out
    obtain ⟨hcz36_0, hcz36_1, hcz36_2, hcz36_3, hcz36_4, hcz36_5, hcz36_6, hcz36_7, hcz36_8⟩ := bc9 BK127.out
    obtain ⟨hfz36_0, hfz36_1, hfz36_2, hfz36_3, hfz36_4, hfz36_5, hfz36_6, hfz36_7, hfz36_8⟩ := bf9 BK127.out
    go_wp2
    refine bodyPost_ret (results_cell_row rfl _ _ gb127 47 #[.int .i64 (wrap64 (a0_0 + a1_0)), .int .i64 (wrap64 (a0_1 + a1_1)), .int .i64 (wrap64 (a0_2 + a1_2)), .bool false, .int .i64 0, .string (⟨#[]⟩ : ByteArray), .bool false, .int .i64 0, .string (⟨#[]⟩ : ByteArray)] (0, 0) _ rfl (by refine blk_put (cs := #[.int .i64 (wrap64 (a0_0 + a1_0)), .int .i64 (wrap64 (a0_1 + a1_1)), .int .i64 (wrap64 (a0_2 + a1_2)), .bool false, .int .i64 0, .string (⟨#[]⟩ : ByteArray), .bool false, .int .i64 0, .string (⟨#[]⟩ : ByteArray)]) ?_ 8 _ rfl; refine blk_put (cs := #[.int .i64 (wrap64 (a0_0 + a1_0)), .int .i64 (wrap64 (a0_1 + a1_1)), .int .i64 (wrap64 (a0_2 + a1_2)), .bool false, .int .i64 0, .string (⟨#[]⟩ : ByteArray), .bool false, .int .i64 0, .string (⟨#[]⟩ : ByteArray)]) ?_ 7 _ rfl; refine blk_put (cs := #[.int .i64 (wrap64 (a0_0 + a1_0)), .int .i64 (wrap64 (a0_1 + a1_1)), .int .i64 (wrap64 (a0_2 + a1_2)), .bool false, .int .i64 0, .string (⟨#[]⟩ : ByteArray), .bool false, .int .i64 0, .string (⟨#[]⟩ : ByteArray)]) ?_ 6 _ rfl; refine blk_put (cs := #[.int .i64 (wrap64 (a0_0 + a1_0)), .int .i64 (wrap64 (a0_1 + a1_1)), .int .i64 (wrap64 (a0_2 + a1_2)), .bool false, .int .i64 0, .string (⟨#[]⟩ : ByteArray), .bool false, .int .i64 0, .string (⟨#[]⟩ : ByteArray)]) ?_ 5 _ rfl; refine blk_put (cs := #[.int .i64 (wrap64 (a0_0 + a1_0)), .int .i64 (wrap64 (a0_1 + a1_1)), .int .i64 (wrap64 (a0_2 + a1_2)), .bool false, .int .i64 0, .string (⟨#[]⟩ : ByteArray), .bool false, .int .i64 0, .string (⟨#[]⟩ : ByteArray)]) ?_ 4 _ rfl; refine blk_put (cs := #[.int .i64 (wrap64 (a0_0 + a1_0)), .int .i64 (wrap64 (a0_1 + a1_1)), .int .i64 (wrap64 (a0_2 + a1_2)), .bool false, .int .i64 0, .string (⟨#[]⟩ : ByteArray), .bool false, .int .i64 0, .string (⟨#[]⟩ : ByteArray)]) ?_ 3 _ rfl; refine blk_put (cs := #[.int .i64 (wrap64 (a0_0 + a1_0)), .int .i64 (wrap64 (a0_1 + a1_1)), .int .i64 0, .bool false, .int .i64 0, .string (⟨#[]⟩ : ByteArray), .bool false, .int .i64 0, .string (⟨#[]⟩ : ByteArray)]) ?_ 2 _ rfl; refine blk_put (cs := #[.int .i64 (wrap64 (a0_0 + a1_0)), .int .i64 0, .int .i64 0, .bool false, .int .i64 0, .string (⟨#[]⟩ : ByteArray), .bool false, .int .i64 0, .string (⟨#[]⟩ : ByteArray)]) ?_ 1 _ rfl; refine blk_put (cs := #[.int .i64 0, .int .i64 0, .int .i64 0, .bool false, .int .i64 0, .string (⟨#[]⟩ : ByteArray), .bool false, .int .i64 0, .string (⟨#[]⟩ : ByteArray)]) ?_ 0 _ rfl; (with_reducible repeat (first | refine blk_drewN ?_ _ | refine blk_drew ?_ | refine blk_alloc ?_ _)); exact BK127.out) Try.underlying47 rfl (by kernel_rfl)) rfl ?_
    exact ⟨by first | rfl | (simp [errW_none, errW_some] <;> rfl) | (simp [*, errW_none, errW_some] <;> rfl), by repeat (first | (with_reducible first | exact HB.out | apply below_alloc | apply pw_below_drewN | apply below_drew1 | refine below_set ?_ GE125.out | refine below_set ?_ GE126.out | refine below_set ?_ GE127.out | refine below_set ?_ GE128.out) | exact HB.out)⟩
   ·replace c29 := Bool.eq_false_iff.mpr c29
    subst c29
    have H1 : (if a0_2 ≤ 0 then (some ((wrap64 (a0_0 + a1_0)), (wrap64 (a0_1 + a1_1)), (wrap64 (a0_2 + a1_2)), a1_3, a1_4, a1_5, a1_6, a1_7, a1_8)) else (if a1_2 ≤ 0 then (some ((wrap64 (a0_0 + a1_0)), (wrap64 (a0_1 + a1_1)), (wrap64 (a0_2 + a1_2)), a0_3, a0_4, a0_5, a0_6, a0_7, a0_8)) else ((kinds_Compare_c.f a1_3 a1_4 a1_5 a0_3 a0_4 a0_5).bind fun t129 => (if t129 < 0 then (sums_Join.j1 kj2 a0_0 a0_1 a0_2 a0_3 a0_4 a0_5 a0_6 a0_7 a0_8 a1_0 a1_1 a1_2 a1_3 a1_4 a1_5 a1_6 a1_7 a1_8 (wrap64 (a0_0 + a1_0)) (wrap64 (a0_1 + a1_1)) (wrap64 (a0_2 + a1_2)) a1_3 a1_4 a1_5 a0_6 a0_7 a0_8) else (sums_Join.j1 kj2 a0_0 a0_1 a0_2 a0_3 a0_4 a0_5 a0_6 a0_7 a0_8 a1_0 a1_1 a1_2 a1_3 a1_4 a1_5 a1_6 a1_7 a1_8 (wrap64 (a0_0 + a1_0)) (wrap64 (a0_1 + a1_1)) (wrap64 (a0_2 + a1_2)) a0_3 a0_4 a0_5 a0_6 a0_7 a0_8))))) = some (r1, r2, r3, r4, r5, r6, r7, r8, r9) := by rw [if_neg (show ¬ (false = true) by decide)] at H; exact H
    clear H
    have H := H1
    clear H1
    by_cases c37 : a0_2 ≤ 0
    ·rw [if_pos c37] at H
     have c37b0 : decide (a0_2 ≤ 0) = true := decide_eq_true c37
     clear c37
     simp only [Option.some.injEq, Prod.mk.injEq] at H
     obtain ⟨rfl, rfl, rfl, rfl, rfl, rfl, rfl, rfl, rfl⟩ := H
     have hnb38 := NB125_126.out
     have hnc38 := NB126_125.out
     have hnb39 := NB125_127.out
     have hnc39 := NB127_125.out
     have hnb40 := NB125_128.out
     have hnc40 := NB128_125.out
     obtain ⟨hcz41_0, hcz41_1, hcz41_2, hcz41_3, hcz41_4, hcz41_5, hcz41_6, hcz41_7, hcz41_8⟩ := bc9 BK125.out
     obtain ⟨hfz41_0, hfz41_1, hfz41_2, hfz41_3, hfz41_4, hfz41_5, hfz41_6, hfz41_7, hfz41_8⟩ := bf9 BK125.out
     try go_wp2
     have n0_ := Aside0.mk (blk_drew BK125.out)
     have n1_ := Aside0.mk (blk_drew BK126.out)
     have n2_ := Aside0.mk (blk_drew BK127.out)
     have n3_ := Aside0.mk (blk_drew BK128.out)
     have n4_ := Aside0.mk (below_drew1 HB.out)
     clear BK125
     clear BK126
     clear BK127
     clear BK128
     clear HB
     have BK125 := n0_
     have BK126 := n1_
     have BK127 := n2_
     have BK128 := n3_
     have HB := n4_
     clear n0_ n1_ n2_ n3_ n4_
     refine start_ (n := 8) (S := fun w' => w'.cell? ⟨gb126, 0, none⟩ = some (.int .i64 a1_0) ∧ w'.cell? ⟨gb126, 1, none⟩ = some (.int .i64 a1_1) ∧ w'.cell? ⟨gb126, 2, none⟩ = some (.int .i64 a1_2) ∧ w'.cell? ⟨gb126, 3, none⟩ = some (.bool a1_3) ∧ w'.cell? ⟨gb126, 4, none⟩ = some (.int .i64 a1_4) ∧ w'.cell? ⟨gb126, 5, none⟩ = some (.string a1_5) ∧ w'.cell? ⟨gb126, 6, none⟩ = some (.bool a1_6) ∧ w'.cell? ⟨gb126, 7, none⟩ = some (.int .i64 a1_7) ∧ w'.cell? ⟨gb126, 8, none⟩ = some (.string a1_8)) (ds := []) #[false, false, false, false, false, false, false, false] (by kernel_rfl) rfl rfl ⟨(blk_cell BK126.out 0).trans rfl, (blk_cell BK126.out 1).trans rfl, (blk_cell BK126.out 2).trans rfl, (blk_cell BK126.out 3).trans rfl, (blk_cell BK126.out 4).trans rfl, (blk_cell BK126.out 5).trans rfl, (blk_cell BK126.out 6).trans rfl, (blk_cell BK126.out 7).trans rfl, (blk_cell BK126.out 8).trans rfl⟩ (fun hHeld => ?_); refine with_tabW sums_Join.tab9 sums_Join.bits9 (fun HT_ HW_ => ?_)
     generalize wc.drew = w42 at BK125 BK126 BK127 BK128 HB hHeld ⊢
     refine pure_ (i := 0) (N := some 59) (v := ?_) (a' := ?_) #[true, false, false, false, false, false, false, false] rfl rfl (any_of HT_.out (by kernel_rfl)) (fun _ _ _ h => h) (Or.inl ⟨by rfl, ?_⟩) ?_ ?_
     rotate_left
     ·intro w'
      go_simp
      with_reducible rfl
     rotate_left
     ·simp only [Act.put, List.setIfInBounds_toArray, List.set_cons_zero, List.set_cons_succ, i64_w, i32_w]
      rfl
     refine pure_ (i := 2) (N := some 61) (v := ?_) (a' := ?_) #[true, false, true, false, false, false, false, false] rfl rfl (any_of HT_.out (by kernel_rfl)) (fun _ _ _ h => h) (Or.inl ⟨by rfl, ?_⟩) ?_ ?_
     rotate_left
     ·intro w'
      go_simp
      with_reducible rfl
     rotate_left
     ·simp only [Act.put, List.setIfInBounds_toArray, List.set_cons_zero, List.set_cons_succ, i64_w, i32_w]
      rfl
     refine take_ (i := 1) (N := some 60) (v := ?_) (a' := ?_) #[true, true, true, false, false, false, false, false] rfl rfl (take_ofW HT_.out HW_.out (by kernel_rfl)) (fun _ _ _ h => h) (Or.inl ⟨by rfl, ?_⟩) hHeld ?_ ?_
     rotate_left
     ·rintro w' ⟨s0, s1, s2, s3, s4, s5, s6, s7, s8⟩
      go_simp
      with_reducible rfl
     rotate_left
     ·simp only [Act.put, List.setIfInBounds_toArray, List.set_cons_zero, List.set_cons_succ, i64_w, i32_w]
      rfl
     refine pure_ (i := 4) (N := some 63) (v := ?_) (a' := ?_) #[true, true, true, false, true, false, false, false] rfl rfl (any_of HT_.out (by kernel_rfl)) (fun _ _ _ h => h) (Or.inl ⟨by rfl, ?_⟩) ?_ ?_
     rotate_left
     ·intro w'
      go_simp
      with_reducible rfl
     rotate_left
     ·simp only [Act.put, List.setIfInBounds_toArray, List.set_cons_zero, List.set_cons_succ, i64_w, i32_w]
      rfl
     refine take_ (i := 3) (N := some 62) (v := ?_) (a' := ?_) #[true, true, true, true, true, false, false, false] rfl rfl (take_ofW HT_.out HW_.out (by kernel_rfl)) (fun _ _ _ h => h) (Or.inl ⟨by rfl, ?_⟩) hHeld ?_ ?_
     rotate_left
     ·rintro w' ⟨s0, s1, s2, s3, s4, s5, s6, s7, s8⟩
      go_simp
      with_reducible rfl
     rotate_left
     ·simp only [Act.put, List.setIfInBounds_toArray, List.set_cons_zero, List.set_cons_succ, i64_w, i32_w]
      rfl
     refine one_ (i := 5) (N := none) #[true, true, true, true, true, true, false, false] rfl rfl (one_of HT_.out (by kernel_rfl)) (by decide) (fun K hK => ?_)
     have hs43 : w42.cell? ⟨gb128, 3, none⟩ = some (.bool false) := (blk_cell BK128.out 3).trans rfl
     have hfs43 := blk_frozen BK128.out 3
     have hns43_0 := NB125_128.out
     have hns43_1 := NB126_128.out
     have hns43_2 := NB127_128.out
     have hms43_0 := NB128_125.out
     have hms43_1 := NB128_126.out
     have hms43_2 := NB128_127.out
     have hs44 : w42.cell? ⟨gb128, 4, none⟩ = some (.int .i64 0) := (blk_cell BK128.out 4).trans rfl
     have hfs44 := blk_frozen BK128.out 4
     have hns44_0 := NB125_128.out
     have hns44_1 := NB126_128.out
     have hns44_2 := NB127_128.out
     have hms44_0 := NB128_125.out
     have hms44_1 := NB128_126.out
     have hms44_2 := NB128_127.out
     have hs45 : w42.cell? ⟨gb128, 5, none⟩ = some (.string (⟨#[]⟩ : ByteArray)) := (blk_cell BK128.out 5).trans rfl
     have hfs45 := blk_frozen BK128.out 5
     have hns45_0 := NB125_128.out
     have hns45_1 := NB126_128.out
     have hns45_2 := NB127_128.out
     have hms45_0 := NB128_125.out
     have hms45_1 := NB128_126.out
     have hms45_2 := NB128_127.out
     refine skip_ (w1 := ?_) (by rfl) rfl ?_ ?_
     rotate_left
     ·go_simp
      rfl
     refine hK.out _ _ ⟨((cell_far (p := ⟨gb128, _, none⟩) NB126_128.out _).trans (((cell_far (p := ⟨gb128, _, none⟩) NB126_128.out _).trans (((cell_far (p := ⟨gb128, _, none⟩) NB126_128.out _).trans (hHeld.1)))))), ((cell_far (p := ⟨gb128, _, none⟩) NB126_128.out _).trans (((cell_far (p := ⟨gb128, _, none⟩) NB126_128.out _).trans (((cell_far (p := ⟨gb128, _, none⟩) NB126_128.out _).trans (hHeld.2.1)))))), ((cell_far (p := ⟨gb128, _, none⟩) NB126_128.out _).trans (((cell_far (p := ⟨gb128, _, none⟩) NB126_128.out _).trans (((cell_far (p := ⟨gb128, _, none⟩) NB126_128.out _).trans (hHeld.2.2.1)))))), ((cell_far (p := ⟨gb128, _, none⟩) NB126_128.out _).trans (((cell_far (p := ⟨gb128, _, none⟩) NB126_128.out _).trans (((cell_far (p := ⟨gb128, _, none⟩) NB126_128.out _).trans (hHeld.2.2.2.1)))))), ((cell_far (p := ⟨gb128, _, none⟩) NB126_128.out _).trans (((cell_far (p := ⟨gb128, _, none⟩) NB126_128.out _).trans (((cell_far (p := ⟨gb128, _, none⟩) NB126_128.out _).trans (hHeld.2.2.2.2.1)))))), ((cell_far (p := ⟨gb128, _, none⟩) NB126_128.out _).trans (((cell_far (p := ⟨gb128, _, none⟩) NB126_128.out _).trans (((cell_far (p := ⟨gb128, _, none⟩) NB126_128.out _).trans (hHeld.2.2.2.2.2.1)))))), ((cell_far (p := ⟨gb128, _, none⟩) NB126_128.out _).trans (((cell_far (p := ⟨gb128, _, none⟩) NB126_128.out _).trans (((cell_far (p := ⟨gb128, _, none⟩) NB126_128.out _).trans (hHeld.2.2.2.2.2.2.1)))))), ((cell_far (p := ⟨gb128, _, none⟩) NB126_128.out _).trans (((cell_far (p := ⟨gb128, _, none⟩) NB126_128.out _).trans (((cell_far (p := ⟨gb128, _, none⟩) NB126_128.out _).trans (hHeld.2.2.2.2.2.2.2.1)))))), ((cell_far (p := ⟨gb128, _, none⟩) NB126_128.out _).trans (((cell_far (p := ⟨gb128, _, none⟩) NB126_128.out _).trans (((cell_far (p := ⟨gb128, _, none⟩) NB126_128.out _).trans (hHeld.2.2.2.2.2.2.2.2))))))⟩ (fun hHeld => ?_)
     clear hK K
     refine pure_ (i := 6) (N := some 64) (v := ?_) (a' := ?_) #[true, true, true, true, true, true, true, false] rfl rfl (any_of HT_.out (by kernel_rfl)) (fun _ _ _ h => h) (Or.inl ⟨by rfl, ?_⟩) ?_ ?_
     rotate_left
     ·intro w'
      go_simp
      with_reducible rfl
     rotate_left
     ·simp only [Act.put, List.setIfInBounds_toArray, List.set_cons_zero, List.set_cons_succ, i64_w, i32_w]
      rfl
     refine one_ (i := 7) (N := none) #[true, true, true, true, true, true, true, true] rfl rfl (one_of HT_.out (by kernel_rfl)) (by decide) (fun K hK => ?_)
     have hs46 : w42.cell? ⟨gb128, 6, none⟩ = some (.bool false) := (blk_cell BK128.out 6).trans rfl
     have hfs46 := blk_frozen BK128.out 6
     have hns46_0 := NB125_128.out
     have hns46_1 := NB126_128.out
     have hns46_2 := NB127_128.out
     have hms46_0 := NB128_125.out
     have hms46_1 := NB128_126.out
     have hms46_2 := NB128_127.out
     have hs47 : w42.cell? ⟨gb128, 7, none⟩ = some (.int .i64 0) := (blk_cell BK128.out 7).trans rfl
     have hfs47 := blk_frozen BK128.out 7
     have hns47_0 := NB125_128.out
     have hns47_1 := NB126_128.out
     have hns47_2 := NB127_128.out
     have hms47_0 := NB128_125.out
     have hms47_1 := NB128_126.out
     have hms47_2 := NB128_127.out
     have hs48 : w42.cell? ⟨gb128, 8, none⟩ = some (.string (⟨#[]⟩ : ByteArray)) := (blk_cell BK128.out 8).trans rfl
     have hfs48 := blk_frozen BK128.out 8
     have hns48_0 := NB125_128.out
     have hns48_1 := NB126_128.out
     have hns48_2 := NB127_128.out
     have hms48_0 := NB128_125.out
     have hms48_1 := NB128_126.out
     have hms48_2 := NB128_127.out
     refine skip_ (w1 := ?_) (by rfl) rfl ?_ ?_
     rotate_left
     ·go_simp
      rfl
     refine hK.out _ _ ⟨((cell_far (p := ⟨gb128, _, none⟩) NB126_128.out _).trans (((cell_far (p := ⟨gb128, _, none⟩) NB126_128.out _).trans (((cell_far (p := ⟨gb128, _, none⟩) NB126_128.out _).trans (hHeld.1)))))), ((cell_far (p := ⟨gb128, _, none⟩) NB126_128.out _).trans (((cell_far (p := ⟨gb128, _, none⟩) NB126_128.out _).trans (((cell_far (p := ⟨gb128, _, none⟩) NB126_128.out _).trans (hHeld.2.1)))))), ((cell_far (p := ⟨gb128, _, none⟩) NB126_128.out _).trans (((cell_far (p := ⟨gb128, _, none⟩) NB126_128.out _).trans (((cell_far (p := ⟨gb128, _, none⟩) NB126_128.out _).trans (hHeld.2.2.1)))))), ((cell_far (p := ⟨gb128, _, none⟩) NB126_128.out _).trans (((cell_far (p := ⟨gb128, _, none⟩) NB126_128.out _).trans (((cell_far (p := ⟨gb128, _, none⟩) NB126_128.out _).trans (hHeld.2.2.2.1)))))), ((cell_far (p := ⟨gb128, _, none⟩) NB126_128.out _).trans (((cell_far (p := ⟨gb128, _, none⟩) NB126_128.out _).trans (((cell_far (p := ⟨gb128, _, none⟩) NB126_128.out _).trans (hHeld.2.2.2.2.1)))))), ((cell_far (p := ⟨gb128, _, none⟩) NB126_128.out _).trans (((cell_far (p := ⟨gb128, _, none⟩) NB126_128.out _).trans (((cell_far (p := ⟨gb128, _, none⟩) NB126_128.out _).trans (hHeld.2.2.2.2.2.1)))))), ((cell_far (p := ⟨gb128, _, none⟩) NB126_128.out _).trans (((cell_far (p := ⟨gb128, _, none⟩) NB126_128.out _).trans (((cell_far (p := ⟨gb128, _, none⟩) NB126_128.out _).trans (hHeld.2.2.2.2.2.2.1)))))), ((cell_far (p := ⟨gb128, _, none⟩) NB126_128.out _).trans (((cell_far (p := ⟨gb128, _, none⟩) NB126_128.out _).trans (((cell_far (p := ⟨gb128, _, none⟩) NB126_128.out _).trans (hHeld.2.2.2.2.2.2.2.1)))))), ((cell_far (p := ⟨gb128, _, none⟩) NB126_128.out _).trans (((cell_far (p := ⟨gb128, _, none⟩) NB126_128.out _).trans (((cell_far (p := ⟨gb128, _, none⟩) NB126_128.out _).trans (hHeld.2.2.2.2.2.2.2.2))))))⟩ (fun hHeld => ?_)
     clear hK K
     refine done_ (done_of HT_.out (by kernel_rfl)) ?_
     have hnb49 := NB128_126.out
     have hnc49 := NB126_128.out
     have hnb50 := NB128_127.out
     have hnc50 := NB127_128.out
     obtain ⟨hcz51_0, hcz51_1, hcz51_2, hcz51_3, hcz51_4, hcz51_5, hcz51_6, hcz51_7, hcz51_8⟩ := bc9 BK128.out
     obtain ⟨hfz51_0, hfz51_1, hfz51_2, hfz51_3, hfz51_4, hfz51_5, hfz51_6, hfz51_7, hfz51_8⟩ := bf9 BK128.out
     have hnb52 := NB127_126.out
     have hnc52 := NB126_127.out
     obtain ⟨hcz53_0, hcz53_1, hcz53_2, hcz53_3, hcz53_4, hcz53_5, hcz53_6, hcz53_7, hcz53_8⟩ := bc9 BK127.out
     obtain ⟨hfz53_0, hfz53_1, hfz53_2, hfz53_3, hfz53_4, hfz53_5, hfz53_6, hfz53_7, hfz53_8⟩ := bf9 BK127.out
     try go_wp2
     refine bodyPost_ret (results_cell_row rfl _ _ gb127 47 #[.int .i64 (wrap64 (a0_0 + a1_0)), .int .i64 (wrap64 (a0_1 + a1_1)), .int .i64 (wrap64 (a0_2 + a1_2)), .bool a1_3, .int .i64 a1_4, .string a1_5, .bool a1_6, .int .i64 a1_7, .string a1_8] (0, 0) _ rfl (by refine blk_put (cs := #[.int .i64 (wrap64 (a0_0 + a1_0)), .int .i64 (wrap64 (a0_1 + a1_1)), .int .i64 (wrap64 (a0_2 + a1_2)), .bool a1_3, .int .i64 a1_4, .string a1_5, .bool a1_6, .int .i64 a1_7, .string (⟨#[]⟩ : ByteArray)]) ?_ 8 _ rfl; refine blk_put (cs := #[.int .i64 (wrap64 (a0_0 + a1_0)), .int .i64 (wrap64 (a0_1 + a1_1)), .int .i64 (wrap64 (a0_2 + a1_2)), .bool a1_3, .int .i64 a1_4, .string a1_5, .bool a1_6, .int .i64 0, .string (⟨#[]⟩ : ByteArray)]) ?_ 7 _ rfl; refine blk_put (cs := #[.int .i64 (wrap64 (a0_0 + a1_0)), .int .i64 (wrap64 (a0_1 + a1_1)), .int .i64 (wrap64 (a0_2 + a1_2)), .bool a1_3, .int .i64 a1_4, .string a1_5, .bool false, .int .i64 0, .string (⟨#[]⟩ : ByteArray)]) ?_ 6 _ rfl; refine blk_put (cs := #[.int .i64 (wrap64 (a0_0 + a1_0)), .int .i64 (wrap64 (a0_1 + a1_1)), .int .i64 (wrap64 (a0_2 + a1_2)), .bool a1_3, .int .i64 a1_4, .string (⟨#[]⟩ : ByteArray), .bool false, .int .i64 0, .string (⟨#[]⟩ : ByteArray)]) ?_ 5 _ rfl; refine blk_put (cs := #[.int .i64 (wrap64 (a0_0 + a1_0)), .int .i64 (wrap64 (a0_1 + a1_1)), .int .i64 (wrap64 (a0_2 + a1_2)), .bool a1_3, .int .i64 0, .string (⟨#[]⟩ : ByteArray), .bool false, .int .i64 0, .string (⟨#[]⟩ : ByteArray)]) ?_ 4 _ rfl; refine blk_put (cs := #[.int .i64 (wrap64 (a0_0 + a1_0)), .int .i64 (wrap64 (a0_1 + a1_1)), .int .i64 (wrap64 (a0_2 + a1_2)), .bool false, .int .i64 0, .string (⟨#[]⟩ : ByteArray), .bool false, .int .i64 0, .string (⟨#[]⟩ : ByteArray)]) ?_ 3 _ rfl; refine blk_put (cs := #[.int .i64 (wrap64 (a0_0 + a1_0)), .int .i64 (wrap64 (a0_1 + a1_1)), .int .i64 0, .bool false, .int .i64 0, .string (⟨#[]⟩ : ByteArray), .bool false, .int .i64 0, .string (⟨#[]⟩ : ByteArray)]) ?_ 2 _ rfl; refine blk_put (cs := #[.int .i64 (wrap64 (a0_0 + a1_0)), .int .i64 0, .int .i64 0, .bool false, .int .i64 0, .string (⟨#[]⟩ : ByteArray), .bool false, .int .i64 0, .string (⟨#[]⟩ : ByteArray)]) ?_ 1 _ rfl; refine blk_put (cs := #[.int .i64 0, .int .i64 0, .int .i64 0, .bool false, .int .i64 0, .string (⟨#[]⟩ : ByteArray), .bool false, .int .i64 0, .string (⟨#[]⟩ : ByteArray)]) ?_ 0 _ rfl; (iterate 6 (refine blk_far ?_ NB127_128.out _)); (with_reducible repeat (first | refine blk_drewN ?_ _ | refine blk_drew ?_ | refine blk_alloc ?_ _)); exact BK127.out) Try.underlying47 rfl (by kernel_rfl)) rfl ?_
     exact ⟨by first | rfl | (simp [errW_none, errW_some] <;> rfl) | (simp [*, errW_none, errW_some] <;> rfl), by repeat (first | (with_reducible first | exact HB.out | apply below_alloc | apply pw_below_drewN | apply below_drew1 | refine below_set ?_ GE125.out | refine below_set ?_ GE126.out | refine below_set ?_ GE127.out | refine below_set ?_ GE128.out) | exact HB.out)⟩
    ·rw [if_neg c37] at H
     have c37b0 : decide (a0_2 ≤ 0) = false := decide_eq_false c37
     clear c37
     by_cases c54 : a1_2 ≤ 0
     ·rw [if_pos c54] at H
      have c54b0 : decide (a1_2 ≤ 0) = true := decide_eq_true c54
      clear c54
      simp only [Option.some.injEq, Prod.mk.injEq] at H
      obtain ⟨rfl, rfl, rfl, rfl, rfl, rfl, rfl, rfl, rfl⟩ := H
      have hnb55 := NB125_126.out
      have hnc55 := NB126_125.out
      have hnb56 := NB125_127.out
      have hnc56 := NB127_125.out
      have hnb57 := NB125_128.out
      have hnc57 := NB128_125.out
      obtain ⟨hcz58_0, hcz58_1, hcz58_2, hcz58_3, hcz58_4, hcz58_5, hcz58_6, hcz58_7, hcz58_8⟩ := bc9 BK125.out
      obtain ⟨hfz58_0, hfz58_1, hfz58_2, hfz58_3, hfz58_4, hfz58_5, hfz58_6, hfz58_7, hfz58_8⟩ := bf9 BK125.out
      have hnb59 := NB126_127.out
      have hnc59 := NB127_126.out
      have hnb60 := NB126_128.out
      have hnc60 := NB128_126.out
      obtain ⟨hcz61_0, hcz61_1, hcz61_2, hcz61_3, hcz61_4, hcz61_5, hcz61_6, hcz61_7, hcz61_8⟩ := bc9 BK126.out
      obtain ⟨hfz61_0, hfz61_1, hfz61_2, hfz61_3, hfz61_4, hfz61_5, hfz61_6, hfz61_7, hfz61_8⟩ := bf9 BK126.out
      try go_wp2
      have n0_ := Aside0.mk (blk_drew BK125.out)
      have n1_ := Aside0.mk (blk_drew BK126.out)
      have n2_ := Aside0.mk (blk_drew BK127.out)
      have n3_ := Aside0.mk (blk_drew BK128.out)
      have n4_ := Aside0.mk (below_drew1 HB.out)
      clear BK125
      clear BK126
      clear BK127
      clear BK128
      clear HB
      have BK125 := n0_
      have BK126 := n1_
      have BK127 := n2_
      have BK128 := n3_
      have HB := n4_
      clear n0_ n1_ n2_ n3_ n4_
      refine start_ (n := 8) (S := fun w' => w'.cell? ⟨gb125, 0, none⟩ = some (.int .i64 a0_0) ∧ w'.cell? ⟨gb125, 1, none⟩ = some (.int .i64 a0_1) ∧ w'.cell? ⟨gb125, 2, none⟩ = some (.int .i64 a0_2) ∧ w'.cell? ⟨gb125, 3, none⟩ = some (.bool a0_3) ∧ w'.cell? ⟨gb125, 4, none⟩ = some (.int .i64 a0_4) ∧ w'.cell? ⟨gb125, 5, none⟩ = some (.string a0_5) ∧ w'.cell? ⟨gb125, 6, none⟩ = some (.bool a0_6) ∧ w'.cell? ⟨gb125, 7, none⟩ = some (.int .i64 a0_7) ∧ w'.cell? ⟨gb125, 8, none⟩ = some (.string a0_8)) (ds := []) #[false, false, false, false, false, false, false, false] (by kernel_rfl) rfl rfl ⟨(blk_cell BK125.out 0).trans rfl, (blk_cell BK125.out 1).trans rfl, (blk_cell BK125.out 2).trans rfl, (blk_cell BK125.out 3).trans rfl, (blk_cell BK125.out 4).trans rfl, (blk_cell BK125.out 5).trans rfl, (blk_cell BK125.out 6).trans rfl, (blk_cell BK125.out 7).trans rfl, (blk_cell BK125.out 8).trans rfl⟩ (fun hHeld => ?_); refine with_tabW sums_Join.tab11 sums_Join.bits11 (fun HT_ HW_ => ?_)
      generalize wc.drew = w62 at BK125 BK126 BK127 BK128 HB hHeld ⊢
      refine pure_ (i := 0) (N := some 69) (v := ?_) (a' := ?_) #[true, false, false, false, false, false, false, false] rfl rfl (any_of HT_.out (by kernel_rfl)) (fun _ _ _ h => h) (Or.inl ⟨by rfl, ?_⟩) ?_ ?_
      rotate_left
      ·intro w'
       go_simp
       with_reducible rfl
      rotate_left
      ·simp only [Act.put, List.setIfInBounds_toArray, List.set_cons_zero, List.set_cons_succ, i64_w, i32_w]
       rfl
      refine pure_ (i := 2) (N := some 71) (v := ?_) (a' := ?_) #[true, false, true, false, false, false, false, false] rfl rfl (any_of HT_.out (by kernel_rfl)) (fun _ _ _ h => h) (Or.inl ⟨by rfl, ?_⟩) ?_ ?_
      rotate_left
      ·intro w'
       go_simp
       with_reducible rfl
      rotate_left
      ·simp only [Act.put, List.setIfInBounds_toArray, List.set_cons_zero, List.set_cons_succ, i64_w, i32_w]
       rfl
      refine take_ (i := 1) (N := some 70) (v := ?_) (a' := ?_) #[true, true, true, false, false, false, false, false] rfl rfl (take_ofW HT_.out HW_.out (by kernel_rfl)) (fun _ _ _ h => h) (Or.inl ⟨by rfl, ?_⟩) hHeld ?_ ?_
      rotate_left
      ·rintro w' ⟨s0, s1, s2, s3, s4, s5, s6, s7, s8⟩
       go_simp
       with_reducible rfl
      rotate_left
      ·simp only [Act.put, List.setIfInBounds_toArray, List.set_cons_zero, List.set_cons_succ, i64_w, i32_w]
       rfl
      refine pure_ (i := 4) (N := some 73) (v := ?_) (a' := ?_) #[true, true, true, false, true, false, false, false] rfl rfl (any_of HT_.out (by kernel_rfl)) (fun _ _ _ h => h) (Or.inl ⟨by rfl, ?_⟩) ?_ ?_
      rotate_left
      ·intro w'
       go_simp
       with_reducible rfl
      rotate_left
      ·simp only [Act.put, List.setIfInBounds_toArray, List.set_cons_zero, List.set_cons_succ, i64_w, i32_w]
       rfl
      refine take_ (i := 3) (N := some 72) (v := ?_) (a' := ?_) #[true, true, true, true, true, false, false, false] rfl rfl (take_ofW HT_.out HW_.out (by kernel_rfl)) (fun _ _ _ h => h) (Or.inl ⟨by rfl, ?_⟩) hHeld ?_ ?_
      rotate_left
      ·rintro w' ⟨s0, s1, s2, s3, s4, s5, s6, s7, s8⟩
       go_simp
       with_reducible rfl
      rotate_left
      ·simp only [Act.put, List.setIfInBounds_toArray, List.set_cons_zero, List.set_cons_succ, i64_w, i32_w]
       rfl
      refine one_ (i := 5) (N := none) #[true, true, true, true, true, true, false, false] rfl rfl (one_of HT_.out (by kernel_rfl)) (by decide) (fun K hK => ?_)
      have hs63 : w62.cell? ⟨gb128, 3, none⟩ = some (.bool false) := (blk_cell BK128.out 3).trans rfl
      have hfs63 := blk_frozen BK128.out 3
      have hns63_0 := NB125_128.out
      have hns63_1 := NB126_128.out
      have hns63_2 := NB127_128.out
      have hms63_0 := NB128_125.out
      have hms63_1 := NB128_126.out
      have hms63_2 := NB128_127.out
      have hs64 : w62.cell? ⟨gb128, 4, none⟩ = some (.int .i64 0) := (blk_cell BK128.out 4).trans rfl
      have hfs64 := blk_frozen BK128.out 4
      have hns64_0 := NB125_128.out
      have hns64_1 := NB126_128.out
      have hns64_2 := NB127_128.out
      have hms64_0 := NB128_125.out
      have hms64_1 := NB128_126.out
      have hms64_2 := NB128_127.out
      have hs65 : w62.cell? ⟨gb128, 5, none⟩ = some (.string (⟨#[]⟩ : ByteArray)) := (blk_cell BK128.out 5).trans rfl
      have hfs65 := blk_frozen BK128.out 5
      have hns65_0 := NB125_128.out
      have hns65_1 := NB126_128.out
      have hns65_2 := NB127_128.out
      have hms65_0 := NB128_125.out
      have hms65_1 := NB128_126.out
      have hms65_2 := NB128_127.out
      refine skip_ (w1 := ?_) (by rfl) rfl ?_ ?_
      rotate_left
      ·go_simp
       rfl
      refine hK.out _ _ ⟨((cell_far (p := ⟨gb128, _, none⟩) NB125_128.out _).trans (((cell_far (p := ⟨gb128, _, none⟩) NB125_128.out _).trans (((cell_far (p := ⟨gb128, _, none⟩) NB125_128.out _).trans (hHeld.1)))))), ((cell_far (p := ⟨gb128, _, none⟩) NB125_128.out _).trans (((cell_far (p := ⟨gb128, _, none⟩) NB125_128.out _).trans (((cell_far (p := ⟨gb128, _, none⟩) NB125_128.out _).trans (hHeld.2.1)))))), ((cell_far (p := ⟨gb128, _, none⟩) NB125_128.out _).trans (((cell_far (p := ⟨gb128, _, none⟩) NB125_128.out _).trans (((cell_far (p := ⟨gb128, _, none⟩) NB125_128.out _).trans (hHeld.2.2.1)))))), ((cell_far (p := ⟨gb128, _, none⟩) NB125_128.out _).trans (((cell_far (p := ⟨gb128, _, none⟩) NB125_128.out _).trans (((cell_far (p := ⟨gb128, _, none⟩) NB125_128.out _).trans (hHeld.2.2.2.1)))))), ((cell_far (p := ⟨gb128, _, none⟩) NB125_128.out _).trans (((cell_far (p := ⟨gb128, _, none⟩) NB125_128.out _).trans (((cell_far (p := ⟨gb128, _, none⟩) NB125_128.out _).trans (hHeld.2.2.2.2.1)))))), ((cell_far (p := ⟨gb128, _, none⟩) NB125_128.out _).trans (((cell_far (p := ⟨gb128, _, none⟩) NB125_128.out _).trans (((cell_far (p := ⟨gb128, _, none⟩) NB125_128.out _).trans (hHeld.2.2.2.2.2.1)))))), ((cell_far (p := ⟨gb128, _, none⟩) NB125_128.out _).trans (((cell_far (p := ⟨gb128, _, none⟩) NB125_128.out _).trans (((cell_far (p := ⟨gb128, _, none⟩) NB125_128.out _).trans (hHeld.2.2.2.2.2.2.1)))))), ((cell_far (p := ⟨gb128, _, none⟩) NB125_128.out _).trans (((cell_far (p := ⟨gb128, _, none⟩) NB125_128.out _).trans (((cell_far (p := ⟨gb128, _, none⟩) NB125_128.out _).trans (hHeld.2.2.2.2.2.2.2.1)))))), ((cell_far (p := ⟨gb128, _, none⟩) NB125_128.out _).trans (((cell_far (p := ⟨gb128, _, none⟩) NB125_128.out _).trans (((cell_far (p := ⟨gb128, _, none⟩) NB125_128.out _).trans (hHeld.2.2.2.2.2.2.2.2))))))⟩ (fun hHeld => ?_)
      clear hK K
      refine pure_ (i := 6) (N := some 74) (v := ?_) (a' := ?_) #[true, true, true, true, true, true, true, false] rfl rfl (any_of HT_.out (by kernel_rfl)) (fun _ _ _ h => h) (Or.inl ⟨by rfl, ?_⟩) ?_ ?_
      rotate_left
      ·intro w'
       go_simp
       with_reducible rfl
      rotate_left
      ·simp only [Act.put, List.setIfInBounds_toArray, List.set_cons_zero, List.set_cons_succ, i64_w, i32_w]
       rfl
      refine one_ (i := 7) (N := none) #[true, true, true, true, true, true, true, true] rfl rfl (one_of HT_.out (by kernel_rfl)) (by decide) (fun K hK => ?_)
      have hs66 : w62.cell? ⟨gb128, 6, none⟩ = some (.bool false) := (blk_cell BK128.out 6).trans rfl
      have hfs66 := blk_frozen BK128.out 6
      have hns66_0 := NB125_128.out
      have hns66_1 := NB126_128.out
      have hns66_2 := NB127_128.out
      have hms66_0 := NB128_125.out
      have hms66_1 := NB128_126.out
      have hms66_2 := NB128_127.out
      have hs67 : w62.cell? ⟨gb128, 7, none⟩ = some (.int .i64 0) := (blk_cell BK128.out 7).trans rfl
      have hfs67 := blk_frozen BK128.out 7
      have hns67_0 := NB125_128.out
      have hns67_1 := NB126_128.out
      have hns67_2 := NB127_128.out
      have hms67_0 := NB128_125.out
      have hms67_1 := NB128_126.out
      have hms67_2 := NB128_127.out
      have hs68 : w62.cell? ⟨gb128, 8, none⟩ = some (.string (⟨#[]⟩ : ByteArray)) := (blk_cell BK128.out 8).trans rfl
      have hfs68 := blk_frozen BK128.out 8
      have hns68_0 := NB125_128.out
      have hns68_1 := NB126_128.out
      have hns68_2 := NB127_128.out
      have hms68_0 := NB128_125.out
      have hms68_1 := NB128_126.out
      have hms68_2 := NB128_127.out
      refine skip_ (w1 := ?_) (by rfl) rfl ?_ ?_
      rotate_left
      ·go_simp
       rfl
      refine hK.out _ _ ⟨((cell_far (p := ⟨gb128, _, none⟩) NB125_128.out _).trans (((cell_far (p := ⟨gb128, _, none⟩) NB125_128.out _).trans (((cell_far (p := ⟨gb128, _, none⟩) NB125_128.out _).trans (hHeld.1)))))), ((cell_far (p := ⟨gb128, _, none⟩) NB125_128.out _).trans (((cell_far (p := ⟨gb128, _, none⟩) NB125_128.out _).trans (((cell_far (p := ⟨gb128, _, none⟩) NB125_128.out _).trans (hHeld.2.1)))))), ((cell_far (p := ⟨gb128, _, none⟩) NB125_128.out _).trans (((cell_far (p := ⟨gb128, _, none⟩) NB125_128.out _).trans (((cell_far (p := ⟨gb128, _, none⟩) NB125_128.out _).trans (hHeld.2.2.1)))))), ((cell_far (p := ⟨gb128, _, none⟩) NB125_128.out _).trans (((cell_far (p := ⟨gb128, _, none⟩) NB125_128.out _).trans (((cell_far (p := ⟨gb128, _, none⟩) NB125_128.out _).trans (hHeld.2.2.2.1)))))), ((cell_far (p := ⟨gb128, _, none⟩) NB125_128.out _).trans (((cell_far (p := ⟨gb128, _, none⟩) NB125_128.out _).trans (((cell_far (p := ⟨gb128, _, none⟩) NB125_128.out _).trans (hHeld.2.2.2.2.1)))))), ((cell_far (p := ⟨gb128, _, none⟩) NB125_128.out _).trans (((cell_far (p := ⟨gb128, _, none⟩) NB125_128.out _).trans (((cell_far (p := ⟨gb128, _, none⟩) NB125_128.out _).trans (hHeld.2.2.2.2.2.1)))))), ((cell_far (p := ⟨gb128, _, none⟩) NB125_128.out _).trans (((cell_far (p := ⟨gb128, _, none⟩) NB125_128.out _).trans (((cell_far (p := ⟨gb128, _, none⟩) NB125_128.out _).trans (hHeld.2.2.2.2.2.2.1)))))), ((cell_far (p := ⟨gb128, _, none⟩) NB125_128.out _).trans (((cell_far (p := ⟨gb128, _, none⟩) NB125_128.out _).trans (((cell_far (p := ⟨gb128, _, none⟩) NB125_128.out _).trans (hHeld.2.2.2.2.2.2.2.1)))))), ((cell_far (p := ⟨gb128, _, none⟩) NB125_128.out _).trans (((cell_far (p := ⟨gb128, _, none⟩) NB125_128.out _).trans (((cell_far (p := ⟨gb128, _, none⟩) NB125_128.out _).trans (hHeld.2.2.2.2.2.2.2.2))))))⟩ (fun hHeld => ?_)
      clear hK K
      refine done_ (done_of HT_.out (by kernel_rfl)) ?_
      have hnb69 := NB128_127.out
      have hnc69 := NB127_128.out
      obtain ⟨hcz70_0, hcz70_1, hcz70_2, hcz70_3, hcz70_4, hcz70_5, hcz70_6, hcz70_7, hcz70_8⟩ := bc9 BK128.out
      obtain ⟨hfz70_0, hfz70_1, hfz70_2, hfz70_3, hfz70_4, hfz70_5, hfz70_6, hfz70_7, hfz70_8⟩ := bf9 BK128.out
      obtain ⟨hcz71_0, hcz71_1, hcz71_2, hcz71_3, hcz71_4, hcz71_5, hcz71_6, hcz71_7, hcz71_8⟩ := bc9 BK127.out
      obtain ⟨hfz71_0, hfz71_1, hfz71_2, hfz71_3, hfz71_4, hfz71_5, hfz71_6, hfz71_7, hfz71_8⟩ := bf9 BK127.out
      try go_wp2
      refine bodyPost_ret (results_cell_row rfl _ _ gb127 47 #[.int .i64 (wrap64 (a0_0 + a1_0)), .int .i64 (wrap64 (a0_1 + a1_1)), .int .i64 (wrap64 (a0_2 + a1_2)), .bool a0_3, .int .i64 a0_4, .string a0_5, .bool a0_6, .int .i64 a0_7, .string a0_8] (0, 0) _ rfl (by refine blk_put (cs := #[.int .i64 (wrap64 (a0_0 + a1_0)), .int .i64 (wrap64 (a0_1 + a1_1)), .int .i64 (wrap64 (a0_2 + a1_2)), .bool a0_3, .int .i64 a0_4, .string a0_5, .bool a0_6, .int .i64 a0_7, .string (⟨#[]⟩ : ByteArray)]) ?_ 8 _ rfl; refine blk_put (cs := #[.int .i64 (wrap64 (a0_0 + a1_0)), .int .i64 (wrap64 (a0_1 + a1_1)), .int .i64 (wrap64 (a0_2 + a1_2)), .bool a0_3, .int .i64 a0_4, .string a0_5, .bool a0_6, .int .i64 0, .string (⟨#[]⟩ : ByteArray)]) ?_ 7 _ rfl; refine blk_put (cs := #[.int .i64 (wrap64 (a0_0 + a1_0)), .int .i64 (wrap64 (a0_1 + a1_1)), .int .i64 (wrap64 (a0_2 + a1_2)), .bool a0_3, .int .i64 a0_4, .string a0_5, .bool false, .int .i64 0, .string (⟨#[]⟩ : ByteArray)]) ?_ 6 _ rfl; refine blk_put (cs := #[.int .i64 (wrap64 (a0_0 + a1_0)), .int .i64 (wrap64 (a0_1 + a1_1)), .int .i64 (wrap64 (a0_2 + a1_2)), .bool a0_3, .int .i64 a0_4, .string (⟨#[]⟩ : ByteArray), .bool false, .int .i64 0, .string (⟨#[]⟩ : ByteArray)]) ?_ 5 _ rfl; refine blk_put (cs := #[.int .i64 (wrap64 (a0_0 + a1_0)), .int .i64 (wrap64 (a0_1 + a1_1)), .int .i64 (wrap64 (a0_2 + a1_2)), .bool a0_3, .int .i64 0, .string (⟨#[]⟩ : ByteArray), .bool false, .int .i64 0, .string (⟨#[]⟩ : ByteArray)]) ?_ 4 _ rfl; refine blk_put (cs := #[.int .i64 (wrap64 (a0_0 + a1_0)), .int .i64 (wrap64 (a0_1 + a1_1)), .int .i64 (wrap64 (a0_2 + a1_2)), .bool false, .int .i64 0, .string (⟨#[]⟩ : ByteArray), .bool false, .int .i64 0, .string (⟨#[]⟩ : ByteArray)]) ?_ 3 _ rfl; refine blk_put (cs := #[.int .i64 (wrap64 (a0_0 + a1_0)), .int .i64 (wrap64 (a0_1 + a1_1)), .int .i64 0, .bool false, .int .i64 0, .string (⟨#[]⟩ : ByteArray), .bool false, .int .i64 0, .string (⟨#[]⟩ : ByteArray)]) ?_ 2 _ rfl; refine blk_put (cs := #[.int .i64 (wrap64 (a0_0 + a1_0)), .int .i64 0, .int .i64 0, .bool false, .int .i64 0, .string (⟨#[]⟩ : ByteArray), .bool false, .int .i64 0, .string (⟨#[]⟩ : ByteArray)]) ?_ 1 _ rfl; refine blk_put (cs := #[.int .i64 0, .int .i64 0, .int .i64 0, .bool false, .int .i64 0, .string (⟨#[]⟩ : ByteArray), .bool false, .int .i64 0, .string (⟨#[]⟩ : ByteArray)]) ?_ 0 _ rfl; (iterate 6 (refine blk_far ?_ NB127_128.out _)); (with_reducible repeat (first | refine blk_drewN ?_ _ | refine blk_drew ?_ | refine blk_alloc ?_ _)); exact BK127.out) Try.underlying47 rfl (by kernel_rfl)) rfl ?_
      exact ⟨by first | rfl | (simp [errW_none, errW_some] <;> rfl) | (simp [*, errW_none, errW_some] <;> rfl), by repeat (first | (with_reducible first | exact HB.out | apply below_alloc | apply pw_below_drewN | apply below_drew1 | refine below_set ?_ GE125.out | refine below_set ?_ GE126.out | refine below_set ?_ GE127.out | refine below_set ?_ GE128.out) | exact HB.out)⟩
     ·rw [if_neg c54] at H
      have c54b0 : decide (a1_2 ≤ 0) = false := decide_eq_false c54
      clear c54
      replace H := Option.bind_eq_some_iff.mp H
      obtain ⟨t129, A720, H⟩ := H
      replace H : (if t129 < 0 then (sums_Join.j1 kj2 a0_0 a0_1 a0_2 a0_3 a0_4 a0_5 a0_6 a0_7 a0_8 a1_0 a1_1 a1_2 a1_3 a1_4 a1_5 a1_6 a1_7 a1_8 (wrap64 (a0_0 + a1_0)) (wrap64 (a0_1 + a1_1)) (wrap64 (a0_2 + a1_2)) a1_3 a1_4 a1_5 a0_6 a0_7 a0_8) else (sums_Join.j1 kj2 a0_0 a0_1 a0_2 a0_3 a0_4 a0_5 a0_6 a0_7 a0_8 a1_0 a1_1 a1_2 a1_3 a1_4 a1_5 a1_6 a1_7 a1_8 (wrap64 (a0_0 + a1_0)) (wrap64 (a0_1 + a1_1)) (wrap64 (a0_2 + a1_2)) a0_3 a0_4 a0_5 a0_6 a0_7 a0_8)) = some (r1, r2, r3, r4, r5, r6, r7, r8, r9) := H
      have A72 := Aside0.mk A720
      clear A720
      have HC73 := Aside0.mk H
      clear H
      have hnb74 := NB125_126.out
      have hnc74 := NB126_125.out
      have hnb75 := NB125_127.out
      have hnc75 := NB127_125.out
      have hnb76 := NB125_128.out
      have hnc76 := NB128_125.out
      obtain ⟨hcz77_0, hcz77_1, hcz77_2, hcz77_3, hcz77_4, hcz77_5, hcz77_6, hcz77_7, hcz77_8⟩ := bc9 BK125.out
      obtain ⟨hfz77_0, hfz77_1, hfz77_2, hfz77_3, hfz77_4, hfz77_5, hfz77_6, hfz77_7, hfz77_8⟩ := bf9 BK125.out
      have hnb78 := NB126_127.out
      have hnc78 := NB127_126.out
      have hnb79 := NB126_128.out
      have hnc79 := NB128_126.out
      obtain ⟨hcz80_0, hcz80_1, hcz80_2, hcz80_3, hcz80_4, hcz80_5, hcz80_6, hcz80_7, hcz80_8⟩ := bc9 BK126.out
      obtain ⟨hfz80_0, hfz80_1, hfz80_2, hfz80_3, hfz80_4, hfz80_5, hfz80_6, hfz80_7, hfz80_8⟩ := bf9 BK126.out
      try go_wp2
      have n0_ := Aside0.mk (blk_drew BK125.out)
      have n1_ := Aside0.mk (blk_drew BK126.out)
      have n2_ := Aside0.mk (blk_drew BK127.out)
      have n3_ := Aside0.mk (blk_drew BK128.out)
      have n4_ := Aside0.mk (below_drew1 HB.out)
      clear BK125
      clear BK126
      clear BK127
      clear BK128
      clear HB
      have BK125 := n0_
      have BK126 := n1_
      have BK127 := n2_
      have BK128 := n3_
      have HB := n4_
      clear n0_ n1_ n2_ n3_ n4_
      refine start_ (n := 8) (S := fun w' => w'.cell? ⟨gb125, 0, none⟩ = some (.int .i64 a0_0) ∧ w'.cell? ⟨gb125, 1, none⟩ = some (.int .i64 a0_1) ∧ w'.cell? ⟨gb125, 2, none⟩ = some (.int .i64 a0_2) ∧ w'.cell? ⟨gb125, 3, none⟩ = some (.bool a0_3) ∧ w'.cell? ⟨gb125, 4, none⟩ = some (.int .i64 a0_4) ∧ w'.cell? ⟨gb125, 5, none⟩ = some (.string a0_5) ∧ w'.cell? ⟨gb125, 6, none⟩ = some (.bool a0_6) ∧ w'.cell? ⟨gb125, 7, none⟩ = some (.int .i64 a0_7) ∧ w'.cell? ⟨gb125, 8, none⟩ = some (.string a0_8)) (ds := []) #[false, false, false, false, false, false, false, false] (by kernel_rfl) rfl rfl ⟨(blk_cell BK125.out 0).trans rfl, (blk_cell BK125.out 1).trans rfl, (blk_cell BK125.out 2).trans rfl, (blk_cell BK125.out 3).trans rfl, (blk_cell BK125.out 4).trans rfl, (blk_cell BK125.out 5).trans rfl, (blk_cell BK125.out 6).trans rfl, (blk_cell BK125.out 7).trans rfl, (blk_cell BK125.out 8).trans rfl⟩ (fun hHeld => ?_); refine with_tabW sums_Join.tab2 sums_Join.bits2 (fun HT_ HW_ => ?_)
      generalize wc.drew = w81 at BK125 BK126 BK127 BK128 HB hHeld ⊢
      refine pure_ (i := 0) (N := some 22) (v := ?_) (a' := ?_) #[true, false, false, false, false, false, false, false] rfl rfl (any_of HT_.out (by kernel_rfl)) (fun _ _ _ h => h) (Or.inl ⟨by rfl, ?_⟩) ?_ ?_
      rotate_left
      ·intro w'
       go_simp
       with_reducible rfl
      rotate_left
      ·simp only [Act.put, List.setIfInBounds_toArray, List.set_cons_zero, List.set_cons_succ, i64_w, i32_w]
       rfl
      refine pure_ (i := 2) (N := some 24) (v := ?_) (a' := ?_) #[true, false, true, false, false, false, false, false] rfl rfl (any_of HT_.out (by kernel_rfl)) (fun _ _ _ h => h) (Or.inl ⟨by rfl, ?_⟩) ?_ ?_
      rotate_left
      ·intro w'
       go_simp
       with_reducible rfl
      rotate_left
      ·simp only [Act.put, List.setIfInBounds_toArray, List.set_cons_zero, List.set_cons_succ, i64_w, i32_w]
       rfl
      refine take_ (i := 1) (N := some 23) (v := ?_) (a' := ?_) #[true, true, true, false, false, false, false, false] rfl rfl (take_ofW HT_.out HW_.out (by kernel_rfl)) (fun _ _ _ h => h) (Or.inl ⟨by rfl, ?_⟩) hHeld ?_ ?_
      rotate_left
      ·rintro w' ⟨s0, s1, s2, s3, s4, s5, s6, s7, s8⟩
       go_simp
       with_reducible rfl
      rotate_left
      ·simp only [Act.put, List.setIfInBounds_toArray, List.set_cons_zero, List.set_cons_succ, i64_w, i32_w]
       rfl
      refine pure_ (i := 4) (N := some 26) (v := ?_) (a' := ?_) #[true, true, true, false, true, false, false, false] rfl rfl (any_of HT_.out (by kernel_rfl)) (fun _ _ _ h => h) (Or.inl ⟨by rfl, ?_⟩) ?_ ?_
      rotate_left
      ·intro w'
       go_simp
       with_reducible rfl
      rotate_left
      ·simp only [Act.put, List.setIfInBounds_toArray, List.set_cons_zero, List.set_cons_succ, i64_w, i32_w]
       rfl
      refine take_ (i := 3) (N := some 25) (v := ?_) (a' := ?_) #[true, true, true, true, true, false, false, false] rfl rfl (take_ofW HT_.out HW_.out (by kernel_rfl)) (fun _ _ _ h => h) (Or.inl ⟨by rfl, ?_⟩) hHeld ?_ ?_
      rotate_left
      ·rintro w' ⟨s0, s1, s2, s3, s4, s5, s6, s7, s8⟩
       go_simp
       with_reducible rfl
      rotate_left
      ·simp only [Act.put, List.setIfInBounds_toArray, List.set_cons_zero, List.set_cons_succ, i64_w, i32_w]
       rfl
      refine one_ (i := 5) (N := none) #[true, true, true, true, true, true, false, false] rfl rfl (one_of HT_.out (by kernel_rfl)) (by decide) (fun K hK => ?_)
      have hs82 : w81.cell? ⟨gb128, 3, none⟩ = some (.bool false) := (blk_cell BK128.out 3).trans rfl
      have hfs82 := blk_frozen BK128.out 3
      have hns82_0 := NB125_128.out
      have hns82_1 := NB126_128.out
      have hns82_2 := NB127_128.out
      have hms82_0 := NB128_125.out
      have hms82_1 := NB128_126.out
      have hms82_2 := NB128_127.out
      have hs83 : w81.cell? ⟨gb128, 4, none⟩ = some (.int .i64 0) := (blk_cell BK128.out 4).trans rfl
      have hfs83 := blk_frozen BK128.out 4
      have hns83_0 := NB125_128.out
      have hns83_1 := NB126_128.out
      have hns83_2 := NB127_128.out
      have hms83_0 := NB128_125.out
      have hms83_1 := NB128_126.out
      have hms83_2 := NB128_127.out
      have hs84 : w81.cell? ⟨gb128, 5, none⟩ = some (.string (⟨#[]⟩ : ByteArray)) := (blk_cell BK128.out 5).trans rfl
      have hfs84 := blk_frozen BK128.out 5
      have hns84_0 := NB125_128.out
      have hns84_1 := NB126_128.out
      have hns84_2 := NB127_128.out
      have hms84_0 := NB128_125.out
      have hms84_1 := NB128_126.out
      have hms84_2 := NB128_127.out
      refine skip_ (w1 := ?_) (by rfl) rfl ?_ ?_
      rotate_left
      ·go_simp
       rfl
      refine hK.out _ _ ⟨((cell_far (p := ⟨gb128, _, none⟩) NB125_128.out _).trans (((cell_far (p := ⟨gb128, _, none⟩) NB125_128.out _).trans (((cell_far (p := ⟨gb128, _, none⟩) NB125_128.out _).trans (hHeld.1)))))), ((cell_far (p := ⟨gb128, _, none⟩) NB125_128.out _).trans (((cell_far (p := ⟨gb128, _, none⟩) NB125_128.out _).trans (((cell_far (p := ⟨gb128, _, none⟩) NB125_128.out _).trans (hHeld.2.1)))))), ((cell_far (p := ⟨gb128, _, none⟩) NB125_128.out _).trans (((cell_far (p := ⟨gb128, _, none⟩) NB125_128.out _).trans (((cell_far (p := ⟨gb128, _, none⟩) NB125_128.out _).trans (hHeld.2.2.1)))))), ((cell_far (p := ⟨gb128, _, none⟩) NB125_128.out _).trans (((cell_far (p := ⟨gb128, _, none⟩) NB125_128.out _).trans (((cell_far (p := ⟨gb128, _, none⟩) NB125_128.out _).trans (hHeld.2.2.2.1)))))), ((cell_far (p := ⟨gb128, _, none⟩) NB125_128.out _).trans (((cell_far (p := ⟨gb128, _, none⟩) NB125_128.out _).trans (((cell_far (p := ⟨gb128, _, none⟩) NB125_128.out _).trans (hHeld.2.2.2.2.1)))))), ((cell_far (p := ⟨gb128, _, none⟩) NB125_128.out _).trans (((cell_far (p := ⟨gb128, _, none⟩) NB125_128.out _).trans (((cell_far (p := ⟨gb128, _, none⟩) NB125_128.out _).trans (hHeld.2.2.2.2.2.1)))))), ((cell_far (p := ⟨gb128, _, none⟩) NB125_128.out _).trans (((cell_far (p := ⟨gb128, _, none⟩) NB125_128.out _).trans (((cell_far (p := ⟨gb128, _, none⟩) NB125_128.out _).trans (hHeld.2.2.2.2.2.2.1)))))), ((cell_far (p := ⟨gb128, _, none⟩) NB125_128.out _).trans (((cell_far (p := ⟨gb128, _, none⟩) NB125_128.out _).trans (((cell_far (p := ⟨gb128, _, none⟩) NB125_128.out _).trans (hHeld.2.2.2.2.2.2.2.1)))))), ((cell_far (p := ⟨gb128, _, none⟩) NB125_128.out _).trans (((cell_far (p := ⟨gb128, _, none⟩) NB125_128.out _).trans (((cell_far (p := ⟨gb128, _, none⟩) NB125_128.out _).trans (hHeld.2.2.2.2.2.2.2.2))))))⟩ (fun hHeld => ?_)
      clear hK K
      refine pure_ (i := 6) (N := some 27) (v := ?_) (a' := ?_) #[true, true, true, true, true, true, true, false] rfl rfl (any_of HT_.out (by kernel_rfl)) (fun _ _ _ h => h) (Or.inl ⟨by rfl, ?_⟩) ?_ ?_
      rotate_left
      ·intro w'
       go_simp
       with_reducible rfl
      rotate_left
      ·simp only [Act.put, List.setIfInBounds_toArray, List.set_cons_zero, List.set_cons_succ, i64_w, i32_w]
       rfl
      refine one_ (i := 7) (N := none) #[true, true, true, true, true, true, true, true] rfl rfl (one_of HT_.out (by kernel_rfl)) (by decide) (fun K hK => ?_)
      have hs85 : w81.cell? ⟨gb128, 6, none⟩ = some (.bool false) := (blk_cell BK128.out 6).trans rfl
      have hfs85 := blk_frozen BK128.out 6
      have hns85_0 := NB125_128.out
      have hns85_1 := NB126_128.out
      have hns85_2 := NB127_128.out
      have hms85_0 := NB128_125.out
      have hms85_1 := NB128_126.out
      have hms85_2 := NB128_127.out
      have hs86 : w81.cell? ⟨gb128, 7, none⟩ = some (.int .i64 0) := (blk_cell BK128.out 7).trans rfl
      have hfs86 := blk_frozen BK128.out 7
      have hns86_0 := NB125_128.out
      have hns86_1 := NB126_128.out
      have hns86_2 := NB127_128.out
      have hms86_0 := NB128_125.out
      have hms86_1 := NB128_126.out
      have hms86_2 := NB128_127.out
      have hs87 : w81.cell? ⟨gb128, 8, none⟩ = some (.string (⟨#[]⟩ : ByteArray)) := (blk_cell BK128.out 8).trans rfl
      have hfs87 := blk_frozen BK128.out 8
      have hns87_0 := NB125_128.out
      have hns87_1 := NB126_128.out
      have hns87_2 := NB127_128.out
      have hms87_0 := NB128_125.out
      have hms87_1 := NB128_126.out
      have hms87_2 := NB128_127.out
      refine skip_ (w1 := ?_) (by rfl) rfl ?_ ?_
      rotate_left
      ·go_simp
       rfl
      refine hK.out _ _ ⟨((cell_far (p := ⟨gb128, _, none⟩) NB125_128.out _).trans (((cell_far (p := ⟨gb128, _, none⟩) NB125_128.out _).trans (((cell_far (p := ⟨gb128, _, none⟩) NB125_128.out _).trans (hHeld.1)))))), ((cell_far (p := ⟨gb128, _, none⟩) NB125_128.out _).trans (((cell_far (p := ⟨gb128, _, none⟩) NB125_128.out _).trans (((cell_far (p := ⟨gb128, _, none⟩) NB125_128.out _).trans (hHeld.2.1)))))), ((cell_far (p := ⟨gb128, _, none⟩) NB125_128.out _).trans (((cell_far (p := ⟨gb128, _, none⟩) NB125_128.out _).trans (((cell_far (p := ⟨gb128, _, none⟩) NB125_128.out _).trans (hHeld.2.2.1)))))), ((cell_far (p := ⟨gb128, _, none⟩) NB125_128.out _).trans (((cell_far (p := ⟨gb128, _, none⟩) NB125_128.out _).trans (((cell_far (p := ⟨gb128, _, none⟩) NB125_128.out _).trans (hHeld.2.2.2.1)))))), ((cell_far (p := ⟨gb128, _, none⟩) NB125_128.out _).trans (((cell_far (p := ⟨gb128, _, none⟩) NB125_128.out _).trans (((cell_far (p := ⟨gb128, _, none⟩) NB125_128.out _).trans (hHeld.2.2.2.2.1)))))), ((cell_far (p := ⟨gb128, _, none⟩) NB125_128.out _).trans (((cell_far (p := ⟨gb128, _, none⟩) NB125_128.out _).trans (((cell_far (p := ⟨gb128, _, none⟩) NB125_128.out _).trans (hHeld.2.2.2.2.2.1)))))), ((cell_far (p := ⟨gb128, _, none⟩) NB125_128.out _).trans (((cell_far (p := ⟨gb128, _, none⟩) NB125_128.out _).trans (((cell_far (p := ⟨gb128, _, none⟩) NB125_128.out _).trans (hHeld.2.2.2.2.2.2.1)))))), ((cell_far (p := ⟨gb128, _, none⟩) NB125_128.out _).trans (((cell_far (p := ⟨gb128, _, none⟩) NB125_128.out _).trans (((cell_far (p := ⟨gb128, _, none⟩) NB125_128.out _).trans (hHeld.2.2.2.2.2.2.2.1)))))), ((cell_far (p := ⟨gb128, _, none⟩) NB125_128.out _).trans (((cell_far (p := ⟨gb128, _, none⟩) NB125_128.out _).trans (((cell_far (p := ⟨gb128, _, none⟩) NB125_128.out _).trans (hHeld.2.2.2.2.2.2.2.2))))))⟩ (fun hHeld => ?_)
      clear hK K
      refine done_ (done_of HT_.out (by kernel_rfl)) ?_
      obtain ⟨hcz88_0, hcz88_1, hcz88_2, hcz88_3, hcz88_4, hcz88_5, hcz88_6, hcz88_7, hcz88_8⟩ := bc9 BK126.out
      obtain ⟨hfz88_0, hfz88_1, hfz88_2, hfz88_3, hfz88_4, hfz88_5, hfz88_6, hfz88_7, hfz88_8⟩ := bf9 BK126.out
      obtain ⟨hcz89_0, hcz89_1, hcz89_2, hcz89_3, hcz89_4, hcz89_5, hcz89_6, hcz89_7, hcz89_8⟩ := bc9 BK125.out
      obtain ⟨hfz89_0, hfz89_1, hfz89_2, hfz89_3, hfz89_4, hfz89_5, hfz89_6, hfz89_7, hfz89_8⟩ := bf9 BK125.out
      go_upto_if 33 with (first | ((with_reducible refine gate_callee (f := 41) rfl ?_); refine goesL_ (some 32) rfl rfl Try.func41 (by kernel_rfl) rfl #[.agg #[.bool a1_3, .int .i64 a1_4, .string a1_5], .agg #[.bool a0_3, .int .i64 a0_4, .string a0_5]] rfl (by (try simp only [List.map_toArray, List.map_cons, List.map_nil]); first | done | rfl | (simp only [List.length_drop, List.length_take]; rfl)) ?_; (with_reducible refine (kinds_Compare_c.calls a1_3 a1_4 a1_5 a0_3 a0_4 a0_5 t129 _ A72.out).mono ?_); rintro e w90 ⟨rfl, hb⟩; refine ⟨_, rfl, ?_⟩; have n0_ := Aside0.mk (blk_below (g := gb125) (o := .cells #[.int .i64 a0_0, .int .i64 a0_1, .int .i64 a0_2, .bool a0_3, .int .i64 a0_4, .string a0_5, .bool a0_6, .int .i64 a0_7, .string a0_8] 47 (0, 0)) (by (iterate 6 (refine blk_far ?_ NB125_128.out _)); (with_reducible repeat (first | refine blk_drewN ?_ _ | refine blk_drew ?_ | refine blk_alloc ?_ _)); exact BK125.out) hb); have n1_ := Aside0.mk (blk_below (g := gb126) (o := .cells #[.int .i64 a1_0, .int .i64 a1_1, .int .i64 a1_2, .bool a1_3, .int .i64 a1_4, .string a1_5, .bool a1_6, .int .i64 a1_7, .string a1_8] 47 (0, 0)) (by (iterate 6 (refine blk_far ?_ NB126_128.out _)); (with_reducible repeat (first | refine blk_drewN ?_ _ | refine blk_drew ?_ | refine blk_alloc ?_ _)); exact BK126.out) hb); have n2_ := Aside0.mk (blk_below (g := gb127) (o := .cells #[.int .i64 0, .int .i64 0, .int .i64 0, .bool false, .int .i64 0, .string (⟨#[]⟩ : ByteArray), .bool false, .int .i64 0, .string (⟨#[]⟩ : ByteArray)] 47 (0, 0)) (by (iterate 6 (refine blk_far ?_ NB127_128.out _)); (with_reducible repeat (first | refine blk_drewN ?_ _ | refine blk_drew ?_ | refine blk_alloc ?_ _)); exact BK127.out) hb); have n3_ := Aside0.mk (blk_below (g := gb128) (o := .cells #[.int .i64 (wrap64 (a0_0 + a1_0)), .int .i64 (wrap64 (a0_1 + a1_1)), .int .i64 (wrap64 (a0_2 + a1_2)), .bool a0_3, .int .i64 a0_4, .string a0_5, .bool a0_6, .int .i64 a0_7, .string a0_8] 47 (0, 0)) (by refine blk_put (cs := #[.int .i64 (wrap64 (a0_0 + a1_0)), .int .i64 (wrap64 (a0_1 + a1_1)), .int .i64 (wrap64 (a0_2 + a1_2)), .bool a0_3, .int .i64 a0_4, .string a0_5, .bool a0_6, .int .i64 a0_7, .string (⟨#[]⟩ : ByteArray)]) ?_ 8 _ rfl; refine blk_put (cs := #[.int .i64 (wrap64 (a0_0 + a1_0)), .int .i64 (wrap64 (a0_1 + a1_1)), .int .i64 (wrap64 (a0_2 + a1_2)), .bool a0_3, .int .i64 a0_4, .string a0_5, .bool a0_6, .int .i64 0, .string (⟨#[]⟩ : ByteArray)]) ?_ 7 _ rfl; refine blk_put (cs := #[.int .i64 (wrap64 (a0_0 + a1_0)), .int .i64 (wrap64 (a0_1 + a1_1)), .int .i64 (wrap64 (a0_2 + a1_2)), .bool a0_3, .int .i64 a0_4, .string a0_5, .bool false, .int .i64 0, .string (⟨#[]⟩ : ByteArray)]) ?_ 6 _ rfl; refine blk_put (cs := #[.int .i64 (wrap64 (a0_0 + a1_0)), .int .i64 (wrap64 (a0_1 + a1_1)), .int .i64 (wrap64 (a0_2 + a1_2)), .bool a0_3, .int .i64 a0_4, .string (⟨#[]⟩ : ByteArray), .bool false, .int .i64 0, .string (⟨#[]⟩ : ByteArray)]) ?_ 5 _ rfl; refine blk_put (cs := #[.int .i64 (wrap64 (a0_0 + a1_0)), .int .i64 (wrap64 (a0_1 + a1_1)), .int .i64 (wrap64 (a0_2 + a1_2)), .bool a0_3, .int .i64 0, .string (⟨#[]⟩ : ByteArray), .bool false, .int .i64 0, .string (⟨#[]⟩ : ByteArray)]) ?_ 4 _ rfl; refine blk_put (cs := #[.int .i64 (wrap64 (a0_0 + a1_0)), .int .i64 (wrap64 (a0_1 + a1_1)), .int .i64 (wrap64 (a0_2 + a1_2)), .bool false, .int .i64 0, .string (⟨#[]⟩ : ByteArray), .bool false, .int .i64 0, .string (⟨#[]⟩ : ByteArray)]) ?_ 3 _ rfl; (with_reducible repeat (first | refine blk_drewN ?_ _ | refine blk_drew ?_ | refine blk_alloc ?_ _)); exact BK128.out) hb); have n4_ := Aside0.mk (below_step (by with_reducible repeat first | exact HB.out | apply below_alloc | apply pw_below_drewN | apply below_drew1 | refine below_set ?_ GE125.out | refine below_set ?_ GE126.out | refine below_set ?_ GE127.out | refine below_set ?_ GE128.out) hb); clear BK125; clear BK126; clear BK127; clear BK128; clear HB; have BK125 := n0_; have BK126 := n1_; have BK127 := n2_; have BK128 := n3_; have HB := n4_; clear n0_ n1_ n2_ n3_ n4_; (try clear hb); (try clear hb2); (try clear hk); (try clear hi)))
      (try simp only [Act.put, List.setIfInBounds_toArray, List.set_cons_zero, List.set_cons_succ])
      go_cut [] (fun wc => ∃ (kq : Nat) (x129003_72 : Bool) (x129004_72 : Int) (x129005_72 : ByteArray), Aside0 (sums_Join.j1 kq a0_0 a0_1 a0_2 a0_3 a0_4 a0_5 a0_6 a0_7 a0_8 a1_0 a1_1 a1_2 a1_3 a1_4 a1_5 a1_6 a1_7 a1_8 (wrap64 (a0_0 + a1_0)) (wrap64 (a0_1 + a1_1)) (wrap64 (a0_2 + a1_2)) x129003_72 x129004_72 x129005_72 a0_6 a0_7 a0_8 = some (r1, r2, r3, r4, r5, r6, r7, r8, r9)) ∧ Aside0 (kq ≤ kj2) ∧ Aside0 (wc.heap[gb125]? = some (.cells #[.int .i64 a0_0, .int .i64 a0_1, .int .i64 a0_2, .bool a0_3, .int .i64 a0_4, .string a0_5, .bool a0_6, .int .i64 a0_7, .string a0_8] 47 (0, 0))) ∧ Aside0 (wc.heap[gb126]? = some (.cells #[.int .i64 a1_0, .int .i64 a1_1, .int .i64 a1_2, .bool a1_3, .int .i64 a1_4, .string a1_5, .bool a1_6, .int .i64 a1_7, .string a1_8] 47 (0, 0))) ∧ Aside0 (wc.heap[gb127]? = some (.cells #[.int .i64 0, .int .i64 0, .int .i64 0, .bool false, .int .i64 0, .string (⟨#[]⟩ : ByteArray), .bool false, .int .i64 0, .string (⟨#[]⟩ : ByteArray)] 47 (0, 0))) ∧ Aside0 (wc.heap[gb128]? = some (.cells #[.int .i64 (wrap64 (a0_0 + a1_0)), .int .i64 (wrap64 (a0_1 + a1_1)), .int .i64 (wrap64 (a0_2 + a1_2)), .bool x129003_72, .int .i64 x129004_72, .string x129005_72, .bool a0_6, .int .i64 a0_7, .string a0_8] 47 (0, 0))) ∧ Aside0 (Below w.heap.size w wc))
      case first =>
       have H := HC73.out
       clear HC73
       by_cases c91 : t129 < 0
       ·rw [if_pos c91] at H
        have c91b0 : decide (t129 < 0) = true := decide_eq_true c91
        clear c91
        (first | rw [c91b0] | (simp only [i64_w, i32_w]; rw [c91b0]) | skip)
        have H' := Aside0.mk H
        clear H
        have hnb92 := NB126_125.out
        have hnc92 := NB125_126.out
        have hnb93 := NB126_127.out
        have hnc93 := NB127_126.out
        have hnb94 := NB126_128.out
        have hnc94 := NB128_126.out
        obtain ⟨hcz95_0, hcz95_1, hcz95_2, hcz95_3, hcz95_4, hcz95_5, hcz95_6, hcz95_7, hcz95_8⟩ := bc9 BK126.out
        obtain ⟨hfz95_0, hfz95_1, hfz95_2, hfz95_3, hfz95_4, hfz95_5, hfz95_6, hfz95_7, hfz95_8⟩ := bf9 BK126.out
        have hnb96 := NB128_125.out
        have hnc96 := NB125_128.out
        have hnb97 := NB128_127.out
        have hnc97 := NB127_128.out
        obtain ⟨hcz98_0, hcz98_1, hcz98_2, hcz98_3, hcz98_4, hcz98_5, hcz98_6, hcz98_7, hcz98_8⟩ := bc9 BK128.out
        obtain ⟨hfz98_0, hfz98_1, hfz98_2, hfz98_3, hfz98_4, hfz98_5, hfz98_6, hfz98_7, hfz98_8⟩ := bf9 BK128.out
        go_wp2
        go_meet
        case rel => exact ⟨_, (a1_3), (a1_4), (a1_5), H', ⟨by have := HJ2.out; first | omega | exact Nat.le_refl _⟩, ⟨by (iterate 3 (refine blk_far ?_ NB125_128.out _)); (with_reducible repeat (first | refine blk_drewN ?_ _ | refine blk_drew ?_ | refine blk_alloc ?_ _)); exact BK125.out⟩, ⟨by (iterate 3 (refine blk_far ?_ NB126_128.out _)); (with_reducible repeat (first | refine blk_drewN ?_ _ | refine blk_drew ?_ | refine blk_alloc ?_ _)); exact BK126.out⟩, ⟨by (iterate 3 (refine blk_far ?_ NB127_128.out _)); (with_reducible repeat (first | refine blk_drewN ?_ _ | refine blk_drew ?_ | refine blk_alloc ?_ _)); exact BK127.out⟩, ⟨by refine blk_put (cs := #[.int .i64 (wrap64 (a0_0 + a1_0)), .int .i64 (wrap64 (a0_1 + a1_1)), .int .i64 (wrap64 (a0_2 + a1_2)), .bool a1_3, .int .i64 a1_4, .string a0_5, .bool a0_6, .int .i64 a0_7, .string a0_8]) ?_ 5 _ rfl; refine blk_put (cs := #[.int .i64 (wrap64 (a0_0 + a1_0)), .int .i64 (wrap64 (a0_1 + a1_1)), .int .i64 (wrap64 (a0_2 + a1_2)), .bool a1_3, .int .i64 a0_4, .string a0_5, .bool a0_6, .int .i64 a0_7, .string a0_8]) ?_ 4 _ rfl; refine blk_put (cs := #[.int .i64 (wrap64 (a0_0 + a1_0)), .int .i64 (wrap64 (a0_1 + a1_1)), .int .i64 (wrap64 (a0_2 + a1_2)), .bool a0_3, .int .i64 a0_4, .string a0_5, .bool a0_6, .int .i64 a0_7, .string a0_8]) ?_ 3 _ rfl; (with_reducible repeat (first | refine blk_drewN ?_ _ | refine blk_drew ?_ | refine blk_alloc ?_ _)); exact BK128.out⟩, ⟨by repeat (first | (with_reducible first | exact HB.out | apply below_alloc | apply pw_below_drewN | apply below_drew1 | refine below_set ?_ GE125.out | refine below_set ?_ GE126.out | refine below_set ?_ GE127.out | refine below_set ?_ GE128.out) | exact HB.out)⟩⟩
       ·rw [if_neg c91] at H
        have c91b0 : decide (t129 < 0) = false := decide_eq_false c91
        clear c91
        (first | rw [c91b0] | (simp only [i64_w, i32_w]; rw [c91b0]) | skip)
        have H' := Aside0.mk H
        clear H
        go_wp2
        go_meet
        case rel => exact ⟨_, (a0_3), (a0_4), (a0_5), H', ⟨by have := HJ2.out; first | omega | exact Nat.le_refl _⟩, ⟨by (with_reducible repeat (first | refine blk_drewN ?_ _ | refine blk_drew ?_ | refine blk_alloc ?_ _)); exact BK125.out⟩, ⟨by (with_reducible repeat (first | refine blk_drewN ?_ _ | refine blk_drew ?_ | refine blk_alloc ?_ _)); exact BK126.out⟩, ⟨by (with_reducible repeat (first | refine blk_drewN ?_ _ | refine blk_drew ?_ | refine blk_alloc ?_ _)); exact BK127.out⟩, ⟨by (with_reducible repeat (first | refine blk_drewN ?_ _ | refine blk_drew ?_ | refine blk_alloc ?_ _)); exact BK128.out⟩, ⟨by repeat (first | (with_reducible first | exact HB.out | apply below_alloc | apply pw_below_drewN | apply below_drew1 | refine below_set ?_ GE125.out | refine below_set ?_ GE126.out | refine below_set ?_ GE127.out | refine below_set ?_ GE128.out) | exact HB.out)⟩⟩
      case rest =>
       clear HC73
       try clear p2
       try clear c3
       try clear c4
       try clear c5
       try clear c6
       try clear p6
       try clear c7
       try clear c9
       try clear c37
       try clear c37b0
       try clear c41
       try clear c49
       try clear c50
       try clear c52
       try clear c54
       try clear c54b0
       try clear c55
       try clear c56
       try clear c57
       try clear c59
       try clear c60
       try clear p64
       try clear c69
       try clear c74
       try clear c75
       try clear c76
       try clear c78
       try clear c79
       try clear c91
       try clear c91b0
       try clear c92
       try clear c93
       try clear c94
       try clear c96
       try clear c97
       try clear hcz51_0 hcz51_1 hcz51_2 hcz51_3 hcz51_4 hcz51_5 hcz51_6 hcz51_7 hcz51_8
       try clear hcz53_0 hcz53_1 hcz53_2 hcz53_3 hcz53_4 hcz53_5 hcz53_6 hcz53_7 hcz53_8
       try clear hcz58_0 hcz58_1 hcz58_2 hcz58_3 hcz58_4 hcz58_5 hcz58_6 hcz58_7 hcz58_8
       try clear hcz61_0 hcz61_1 hcz61_2 hcz61_3 hcz61_4 hcz61_5 hcz61_6 hcz61_7 hcz61_8
       try clear hcz70_0 hcz70_1 hcz70_2 hcz70_3 hcz70_4 hcz70_5 hcz70_6 hcz70_7 hcz70_8
       try clear hcz71_0 hcz71_1 hcz71_2 hcz71_3 hcz71_4 hcz71_5 hcz71_6 hcz71_7 hcz71_8
       try clear hcz77_0 hcz77_1 hcz77_2 hcz77_3 hcz77_4 hcz77_5 hcz77_6 hcz77_7 hcz77_8
       try clear hcz80_0 hcz80_1 hcz80_2 hcz80_3 hcz80_4 hcz80_5 hcz80_6 hcz80_7 hcz80_8
       try clear hcz88_0 hcz88_1 hcz88_2 hcz88_3 hcz88_4 hcz88_5 hcz88_6 hcz88_7 hcz88_8
       try clear hcz89_0 hcz89_1 hcz89_2 hcz89_3 hcz89_4 hcz89_5 hcz89_6 hcz89_7 hcz89_8
       try clear hcz95_0 hcz95_1 hcz95_2 hcz95_3 hcz95_4 hcz95_5 hcz95_6 hcz95_7 hcz95_8
       try clear hcz98_0 hcz98_1 hcz98_2 hcz98_3 hcz98_4 hcz98_5 hcz98_6 hcz98_7 hcz98_8
       try clear hfz51_0 hfz51_1 hfz51_2 hfz51_3 hfz51_4 hfz51_5 hfz51_6 hfz51_7 hfz51_8
       try clear hfz53_0 hfz53_1 hfz53_2 hfz53_3 hfz53_4 hfz53_5 hfz53_6 hfz53_7 hfz53_8
       try clear hfz58_0 hfz58_1 hfz58_2 hfz58_3 hfz58_4 hfz58_5 hfz58_6 hfz58_7 hfz58_8
       try clear hfz61_0 hfz61_1 hfz61_2 hfz61_3 hfz61_4 hfz61_5 hfz61_6 hfz61_7 hfz61_8
       try clear hfz70_0 hfz70_1 hfz70_2 hfz70_3 hfz70_4 hfz70_5 hfz70_6 hfz70_7 hfz70_8
       try clear hfz71_0 hfz71_1 hfz71_2 hfz71_3 hfz71_4 hfz71_5 hfz71_6 hfz71_7 hfz71_8
       try clear hfz77_0 hfz77_1 hfz77_2 hfz77_3 hfz77_4 hfz77_5 hfz77_6 hfz77_7 hfz77_8
       try clear hfz80_0 hfz80_1 hfz80_2 hfz80_3 hfz80_4 hfz80_5 hfz80_6 hfz80_7 hfz80_8
       try clear hfz88_0 hfz88_1 hfz88_2 hfz88_3 hfz88_4 hfz88_5 hfz88_6 hfz88_7 hfz88_8
       try clear hfz89_0 hfz89_1 hfz89_2 hfz89_3 hfz89_4 hfz89_5 hfz89_6 hfz89_7 hfz89_8
       try clear hfz95_0 hfz95_1 hfz95_2 hfz95_3 hfz95_4 hfz95_5 hfz95_6 hfz95_7 hfz95_8
       try clear hfz98_0 hfz98_1 hfz98_2 hfz98_3 hfz98_4 hfz98_5 hfz98_6 hfz98_7 hfz98_8
       obtain ⟨kq, x129003_72, x129004_72, x129005_72, HA, HJ72, BK125, BK126, BK127, BK128, HB⟩ := hcut
       cases kq with
       | zero => exact absurd HA.out (by simp [sums_Join.j1])
       | succ kj72 =>
        have H := HA.out
        clear HA
        simp only [sums_Join.j1] at H
        replace H := Option.bind_eq_some_iff.mp H
        obtain ⟨t130, A990, H⟩ := H
        replace H : (if t130 > 0 then (some ((wrap64 (a0_0 + a1_0)), (wrap64 (a0_1 + a1_1)), (wrap64 (a0_2 + a1_2)), x129003_72, x129004_72, x129005_72, a1_6, a1_7, a1_8)) else (some ((wrap64 (a0_0 + a1_0)), (wrap64 (a0_1 + a1_1)), (wrap64 (a0_2 + a1_2)), x129003_72, x129004_72, x129005_72, a0_6, a0_7, a0_8))) = some (r1, r2, r3, r4, r5, r6, r7, r8, r9) := H
        have A99 := Aside0.mk A990
        clear A990
        by_cases c100 : t130 > 0
        ·rw [if_pos c100] at H
         have c100b0 : decide (0 < t130) = true := decide_eq_true c100
         clear c100
         simp only [Option.some.injEq, Prod.mk.injEq] at H
         obtain ⟨rfl, rfl, rfl, rfl, rfl, rfl, rfl, rfl, rfl⟩ := H
         have hnb101 := NB126_125.out
         have hnc101 := NB125_126.out
         have hnb102 := NB126_127.out
         have hnc102 := NB127_126.out
         have hnb103 := NB126_128.out
         have hnc103 := NB128_126.out
         obtain ⟨hcz104_0, hcz104_1, hcz104_2, hcz104_3, hcz104_4, hcz104_5, hcz104_6, hcz104_7, hcz104_8⟩ := bc9 BK126.out
         obtain ⟨hfz104_0, hfz104_1, hfz104_2, hfz104_3, hfz104_4, hfz104_5, hfz104_6, hfz104_7, hfz104_8⟩ := bf9 BK126.out
         have hnb105 := NB125_127.out
         have hnc105 := NB127_125.out
         have hnb106 := NB125_128.out
         have hnc106 := NB128_125.out
         obtain ⟨hcz107_0, hcz107_1, hcz107_2, hcz107_3, hcz107_4, hcz107_5, hcz107_6, hcz107_7, hcz107_8⟩ := bc9 BK125.out
         obtain ⟨hfz107_0, hfz107_1, hfz107_2, hfz107_3, hfz107_4, hfz107_5, hfz107_6, hfz107_7, hfz107_8⟩ := bf9 BK125.out
         go_wp2_with (first | ((with_reducible refine gate_callee (f := 41) rfl ?_); refine goesL_ (some 41) rfl rfl Try.func41 (by kernel_rfl) rfl #[.agg #[.bool a1_6, .int .i64 a1_7, .string a1_8], .agg #[.bool a0_6, .int .i64 a0_7, .string a0_8]] rfl (by (try simp only [List.map_toArray, List.map_cons, List.map_nil]); first | done | rfl | (simp only [List.length_drop, List.length_take]; rfl)) ?_; (with_reducible refine (kinds_Compare_c.calls a1_6 a1_7 a1_8 a0_6 a0_7 a0_8 t130 _ A99.out).mono ?_); rintro e w108 ⟨rfl, hb⟩; refine ⟨_, rfl, ?_⟩; have n0_ := Aside0.mk (blk_below (g := gb125) (o := .cells #[.int .i64 a0_0, .int .i64 a0_1, .int .i64 a0_2, .bool a0_3, .int .i64 a0_4, .string a0_5, .bool a0_6, .int .i64 a0_7, .string a0_8] 47 (0, 0)) (by (with_reducible repeat (first | refine blk_drewN ?_ _ | refine blk_drew ?_ | refine blk_alloc ?_ _)); exact BK125.out) hb); have n1_ := Aside0.mk (blk_below (g := gb126) (o := .cells #[.int .i64 a1_0, .int .i64 a1_1, .int .i64 a1_2, .bool a1_3, .int .i64 a1_4, .string a1_5, .bool a1_6, .int .i64 a1_7, .string a1_8] 47 (0, 0)) (by (with_reducible repeat (first | refine blk_drewN ?_ _ | refine blk_drew ?_ | refine blk_alloc ?_ _)); exact BK126.out) hb); have n2_ := Aside0.mk (blk_below (g := gb127) (o := .cells #[.int .i64 0, .int .i64 0, .int .i64 0, .bool false, .int .i64 0, .string (⟨#[]⟩ : ByteArray), .bool false, .int .i64 0, .string (⟨#[]⟩ : ByteArray)] 47 (0, 0)) (by (with_reducible repeat (first | refine blk_drewN ?_ _ | refine blk_drew ?_ | refine blk_alloc ?_ _)); exact BK127.out) hb); have n3_ := Aside0.mk (blk_below (g := gb128) (o := .cells #[.int .i64 (wrap64 (a0_0 + a1_0)), .int .i64 (wrap64 (a0_1 + a1_1)), .int .i64 (wrap64 (a0_2 + a1_2)), .bool x129003_72, .int .i64 x129004_72, .string x129005_72, .bool a0_6, .int .i64 a0_7, .string a0_8] 47 (0, 0)) (by (with_reducible repeat (first | refine blk_drewN ?_ _ | refine blk_drew ?_ | refine blk_alloc ?_ _)); exact BK128.out) hb); have n4_ := Aside0.mk (below_step (by with_reducible repeat first | exact HB.out | apply below_alloc | apply pw_below_drewN | apply below_drew1 | refine below_set ?_ GE125.out | refine below_set ?_ GE126.out | refine below_set ?_ GE127.out | refine below_set ?_ GE128.out) hb); clear BK125; clear BK126; clear BK127; clear BK128; clear HB; have BK125 := n0_; have BK126 := n1_; have BK127 := n2_; have BK128 := n3_; have HB := n4_; clear n0_ n1_ n2_ n3_ n4_; (try clear hb); (try clear hb2); (try clear hk); (try clear hi); obtain ⟨hcz109_0, hcz109_1, hcz109_2, hcz109_3, hcz109_4, hcz109_5, hcz109_6, hcz109_7, hcz109_8⟩ := bc9 BK126.out; obtain ⟨hfz109_0, hfz109_1, hfz109_2, hfz109_3, hfz109_4, hfz109_5, hfz109_6, hfz109_7, hfz109_8⟩ := bf9 BK126.out; have hnb110 := NB128_127.out; have hnc110 := NB127_128.out; obtain ⟨hcz111_0, hcz111_1, hcz111_2, hcz111_3, hcz111_4, hcz111_5, hcz111_6, hcz111_7, hcz111_8⟩ := bc9 BK128.out; obtain ⟨hfz111_0, hfz111_1, hfz111_2, hfz111_3, hfz111_4, hfz111_5, hfz111_6, hfz111_7, hfz111_8⟩ := bf9 BK128.out; obtain ⟨hcz112_0, hcz112_1, hcz112_2, hcz112_3, hcz112_4, hcz112_5, hcz112_6, hcz112_7, hcz112_8⟩ := bc9 BK127.out; obtain ⟨hfz112_0, hfz112_1, hfz112_2, hfz112_3, hfz112_4, hfz112_5, hfz112_6, hfz112_7, hfz112_8⟩ := bf9 BK127.out))
         refine bodyPost_ret (results_cell_row rfl _ _ gb127 47 #[.int .i64 (wrap64 (a0_0 + a1_0)), .int .i64 (wrap64 (a0_1 + a1_1)), .int .i64 (wrap64 (a0_2 + a1_2)), .bool x129003_72, .int .i64 x129004_72, .string x129005_72, .bool a1_6, .int .i64 a1_7, .string a1_8] (0, 0) _ rfl (by refine blk_put (cs := #[.int .i64 (wrap64 (a0_0 + a1_0)), .int .i64 (wrap64 (a0_1 + a1_1)), .int .i64 (wrap64 (a0_2 + a1_2)), .bool x129003_72, .int .i64 x129004_72, .string x129005_72, .bool a1_6, .int .i64 a1_7, .string (⟨#[]⟩ : ByteArray)]) ?_ 8 _ rfl; refine blk_put (cs := #[.int .i64 (wrap64 (a0_0 + a1_0)), .int .i64 (wrap64 (a0_1 + a1_1)), .int .i64 (wrap64 (a0_2 + a1_2)), .bool x129003_72, .int .i64 x129004_72, .string x129005_72, .bool a1_6, .int .i64 0, .string (⟨#[]⟩ : ByteArray)]) ?_ 7 _ rfl; refine blk_put (cs := #[.int .i64 (wrap64 (a0_0 + a1_0)), .int .i64 (wrap64 (a0_1 + a1_1)), .int .i64 (wrap64 (a0_2 + a1_2)), .bool x129003_72, .int .i64 x129004_72, .string x129005_72, .bool false, .int .i64 0, .string (⟨#[]⟩ : ByteArray)]) ?_ 6 _ rfl; refine blk_put (cs := #[.int .i64 (wrap64 (a0_0 + a1_0)), .int .i64 (wrap64 (a0_1 + a1_1)), .int .i64 (wrap64 (a0_2 + a1_2)), .bool x129003_72, .int .i64 x129004_72, .string (⟨#[]⟩ : ByteArray), .bool false, .int .i64 0, .string (⟨#[]⟩ : ByteArray)]) ?_ 5 _ rfl; refine blk_put (cs := #[.int .i64 (wrap64 (a0_0 + a1_0)), .int .i64 (wrap64 (a0_1 + a1_1)), .int .i64 (wrap64 (a0_2 + a1_2)), .bool x129003_72, .int .i64 0, .string (⟨#[]⟩ : ByteArray), .bool false, .int .i64 0, .string (⟨#[]⟩ : ByteArray)]) ?_ 4 _ rfl; refine blk_put (cs := #[.int .i64 (wrap64 (a0_0 + a1_0)), .int .i64 (wrap64 (a0_1 + a1_1)), .int .i64 (wrap64 (a0_2 + a1_2)), .bool false, .int .i64 0, .string (⟨#[]⟩ : ByteArray), .bool false, .int .i64 0, .string (⟨#[]⟩ : ByteArray)]) ?_ 3 _ rfl; refine blk_put (cs := #[.int .i64 (wrap64 (a0_0 + a1_0)), .int .i64 (wrap64 (a0_1 + a1_1)), .int .i64 0, .bool false, .int .i64 0, .string (⟨#[]⟩ : ByteArray), .bool false, .int .i64 0, .string (⟨#[]⟩ : ByteArray)]) ?_ 2 _ rfl; refine blk_put (cs := #[.int .i64 (wrap64 (a0_0 + a1_0)), .int .i64 0, .int .i64 0, .bool false, .int .i64 0, .string (⟨#[]⟩ : ByteArray), .bool false, .int .i64 0, .string (⟨#[]⟩ : ByteArray)]) ?_ 1 _ rfl; refine blk_put (cs := #[.int .i64 0, .int .i64 0, .int .i64 0, .bool false, .int .i64 0, .string (⟨#[]⟩ : ByteArray), .bool false, .int .i64 0, .string (⟨#[]⟩ : ByteArray)]) ?_ 0 _ rfl; (iterate 3 (refine blk_far ?_ NB127_128.out _)); (with_reducible repeat (first | refine blk_drewN ?_ _ | refine blk_drew ?_ | refine blk_alloc ?_ _)); exact BK127.out) Try.underlying47 rfl (by kernel_rfl)) rfl ?_
         exact ⟨by first | rfl | (simp [errW_none, errW_some] <;> rfl) | (simp [*, errW_none, errW_some] <;> rfl), by repeat (first | (with_reducible first | exact HB.out | apply below_alloc | apply pw_below_drewN | apply below_drew1 | refine below_set ?_ GE125.out | refine below_set ?_ GE126.out | refine below_set ?_ GE127.out | refine below_set ?_ GE128.out) | exact HB.out)⟩
        ·rw [if_neg c100] at H
         have c100b0 : decide (0 < t130) = false := decide_eq_false c100
         clear c100
         simp only [Option.some.injEq, Prod.mk.injEq] at H
         obtain ⟨rfl, rfl, rfl, rfl, rfl, rfl, rfl, rfl, rfl⟩ := H
         have hnb113 := NB126_125.out
         have hnc113 := NB125_126.out
         have hnb114 := NB126_127.out
         have hnc114 := NB127_126.out
         have hnb115 := NB126_128.out
         have hnc115 := NB128_126.out
         obtain ⟨hcz116_0, hcz116_1, hcz116_2, hcz116_3, hcz116_4, hcz116_5, hcz116_6, hcz116_7, hcz116_8⟩ := bc9 BK126.out
         obtain ⟨hfz116_0, hfz116_1, hfz116_2, hfz116_3, hfz116_4, hfz116_5, hfz116_6, hfz116_7, hfz116_8⟩ := bf9 BK126.out
         have hnb117 := NB125_127.out
         have hnc117 := NB127_125.out
         have hnb118 := NB125_128.out
         have hnc118 := NB128_125.out
         obtain ⟨hcz119_0, hcz119_1, hcz119_2, hcz119_3, hcz119_4, hcz119_5, hcz119_6, hcz119_7, hcz119_8⟩ := bc9 BK125.out
         obtain ⟨hfz119_0, hfz119_1, hfz119_2, hfz119_3, hfz119_4, hfz119_5, hfz119_6, hfz119_7, hfz119_8⟩ := bf9 BK125.out
         go_wp2_with (first | ((with_reducible refine gate_callee (f := 41) rfl ?_); refine goesL_ (some 41) rfl rfl Try.func41 (by kernel_rfl) rfl #[.agg #[.bool a1_6, .int .i64 a1_7, .string a1_8], .agg #[.bool a0_6, .int .i64 a0_7, .string a0_8]] rfl (by (try simp only [List.map_toArray, List.map_cons, List.map_nil]); first | done | rfl | (simp only [List.length_drop, List.length_take]; rfl)) ?_; (with_reducible refine (kinds_Compare_c.calls a1_6 a1_7 a1_8 a0_6 a0_7 a0_8 t130 _ A99.out).mono ?_); rintro e w120 ⟨rfl, hb⟩; refine ⟨_, rfl, ?_⟩; have n0_ := Aside0.mk (blk_below (g := gb125) (o := .cells #[.int .i64 a0_0, .int .i64 a0_1, .int .i64 a0_2, .bool a0_3, .int .i64 a0_4, .string a0_5, .bool a0_6, .int .i64 a0_7, .string a0_8] 47 (0, 0)) (by (with_reducible repeat (first | refine blk_drewN ?_ _ | refine blk_drew ?_ | refine blk_alloc ?_ _)); exact BK125.out) hb); have n1_ := Aside0.mk (blk_below (g := gb126) (o := .cells #[.int .i64 a1_0, .int .i64 a1_1, .int .i64 a1_2, .bool a1_3, .int .i64 a1_4, .string a1_5, .bool a1_6, .int .i64 a1_7, .string a1_8] 47 (0, 0)) (by (with_reducible repeat (first | refine blk_drewN ?_ _ | refine blk_drew ?_ | refine blk_alloc ?_ _)); exact BK126.out) hb); have n2_ := Aside0.mk (blk_below (g := gb127) (o := .cells #[.int .i64 0, .int .i64 0, .int .i64 0, .bool false, .int .i64 0, .string (⟨#[]⟩ : ByteArray), .bool false, .int .i64 0, .string (⟨#[]⟩ : ByteArray)] 47 (0, 0)) (by (with_reducible repeat (first | refine blk_drewN ?_ _ | refine blk_drew ?_ | refine blk_alloc ?_ _)); exact BK127.out) hb); have n3_ := Aside0.mk (blk_below (g := gb128) (o := .cells #[.int .i64 (wrap64 (a0_0 + a1_0)), .int .i64 (wrap64 (a0_1 + a1_1)), .int .i64 (wrap64 (a0_2 + a1_2)), .bool x129003_72, .int .i64 x129004_72, .string x129005_72, .bool a0_6, .int .i64 a0_7, .string a0_8] 47 (0, 0)) (by (with_reducible repeat (first | refine blk_drewN ?_ _ | refine blk_drew ?_ | refine blk_alloc ?_ _)); exact BK128.out) hb); have n4_ := Aside0.mk (below_step (by with_reducible repeat first | exact HB.out | apply below_alloc | apply pw_below_drewN | apply below_drew1 | refine below_set ?_ GE125.out | refine below_set ?_ GE126.out | refine below_set ?_ GE127.out | refine below_set ?_ GE128.out) hb); clear BK125; clear BK126; clear BK127; clear BK128; clear HB; have BK125 := n0_; have BK126 := n1_; have BK127 := n2_; have BK128 := n3_; have HB := n4_; clear n0_ n1_ n2_ n3_ n4_; (try clear hb); (try clear hb2); (try clear hk); (try clear hi); have hnb121 := NB128_127.out; have hnc121 := NB127_128.out; obtain ⟨hcz122_0, hcz122_1, hcz122_2, hcz122_3, hcz122_4, hcz122_5, hcz122_6, hcz122_7, hcz122_8⟩ := bc9 BK128.out; obtain ⟨hfz122_0, hfz122_1, hfz122_2, hfz122_3, hfz122_4, hfz122_5, hfz122_6, hfz122_7, hfz122_8⟩ := bf9 BK128.out; obtain ⟨hcz123_0, hcz123_1, hcz123_2, hcz123_3, hcz123_4, hcz123_5, hcz123_6, hcz123_7, hcz123_8⟩ := bc9 BK127.out; obtain ⟨hfz123_0, hfz123_1, hfz123_2, hfz123_3, hfz123_4, hfz123_5, hfz123_6, hfz123_7, hfz123_8⟩ := bf9 BK127.out))
         refine bodyPost_ret (results_cell_row rfl _ _ gb127 47 #[.int .i64 (wrap64 (a0_0 + a1_0)), .int .i64 (wrap64 (a0_1 + a1_1)), .int .i64 (wrap64 (a0_2 + a1_2)), .bool x129003_72, .int .i64 x129004_72, .string x129005_72, .bool a0_6, .int .i64 a0_7, .string a0_8] (0, 0) _ rfl (by refine blk_put (cs := #[.int .i64 (wrap64 (a0_0 + a1_0)), .int .i64 (wrap64 (a0_1 + a1_1)), .int .i64 (wrap64 (a0_2 + a1_2)), .bool x129003_72, .int .i64 x129004_72, .string x129005_72, .bool a0_6, .int .i64 a0_7, .string (⟨#[]⟩ : ByteArray)]) ?_ 8 _ rfl; refine blk_put (cs := #[.int .i64 (wrap64 (a0_0 + a1_0)), .int .i64 (wrap64 (a0_1 + a1_1)), .int .i64 (wrap64 (a0_2 + a1_2)), .bool x129003_72, .int .i64 x129004_72, .string x129005_72, .bool a0_6, .int .i64 0, .string (⟨#[]⟩ : ByteArray)]) ?_ 7 _ rfl; refine blk_put (cs := #[.int .i64 (wrap64 (a0_0 + a1_0)), .int .i64 (wrap64 (a0_1 + a1_1)), .int .i64 (wrap64 (a0_2 + a1_2)), .bool x129003_72, .int .i64 x129004_72, .string x129005_72, .bool false, .int .i64 0, .string (⟨#[]⟩ : ByteArray)]) ?_ 6 _ rfl; refine blk_put (cs := #[.int .i64 (wrap64 (a0_0 + a1_0)), .int .i64 (wrap64 (a0_1 + a1_1)), .int .i64 (wrap64 (a0_2 + a1_2)), .bool x129003_72, .int .i64 x129004_72, .string (⟨#[]⟩ : ByteArray), .bool false, .int .i64 0, .string (⟨#[]⟩ : ByteArray)]) ?_ 5 _ rfl; refine blk_put (cs := #[.int .i64 (wrap64 (a0_0 + a1_0)), .int .i64 (wrap64 (a0_1 + a1_1)), .int .i64 (wrap64 (a0_2 + a1_2)), .bool x129003_72, .int .i64 0, .string (⟨#[]⟩ : ByteArray), .bool false, .int .i64 0, .string (⟨#[]⟩ : ByteArray)]) ?_ 4 _ rfl; refine blk_put (cs := #[.int .i64 (wrap64 (a0_0 + a1_0)), .int .i64 (wrap64 (a0_1 + a1_1)), .int .i64 (wrap64 (a0_2 + a1_2)), .bool false, .int .i64 0, .string (⟨#[]⟩ : ByteArray), .bool false, .int .i64 0, .string (⟨#[]⟩ : ByteArray)]) ?_ 3 _ rfl; refine blk_put (cs := #[.int .i64 (wrap64 (a0_0 + a1_0)), .int .i64 (wrap64 (a0_1 + a1_1)), .int .i64 0, .bool false, .int .i64 0, .string (⟨#[]⟩ : ByteArray), .bool false, .int .i64 0, .string (⟨#[]⟩ : ByteArray)]) ?_ 2 _ rfl; refine blk_put (cs := #[.int .i64 (wrap64 (a0_0 + a1_0)), .int .i64 0, .int .i64 0, .bool false, .int .i64 0, .string (⟨#[]⟩ : ByteArray), .bool false, .int .i64 0, .string (⟨#[]⟩ : ByteArray)]) ?_ 1 _ rfl; refine blk_put (cs := #[.int .i64 0, .int .i64 0, .int .i64 0, .bool false, .int .i64 0, .string (⟨#[]⟩ : ByteArray), .bool false, .int .i64 0, .string (⟨#[]⟩ : ByteArray)]) ?_ 0 _ rfl; (with_reducible repeat (first | refine blk_drewN ?_ _ | refine blk_drew ?_ | refine blk_alloc ?_ _)); exact BK127.out) Try.underlying47 rfl (by kernel_rfl)) rfl ?_
         exact ⟨by first | rfl | (simp [errW_none, errW_some] <;> rfl) | (simp [*, errW_none, errW_some] <;> rfl), by repeat (first | (with_reducible first | exact HB.out | apply below_alloc | apply pw_below_drewN | apply below_drew1 | refine below_set ?_ GE125.out | refine below_set ?_ GE126.out | refine below_set ?_ GE127.out | refine below_set ?_ GE128.out) | exact HB.out)⟩
/-! ### sums_Join_c: function 60 -/
--@import Derived.Test.YthlelhndmnkmjaaThy
/-- what rows come to -/
structure Sm where
  c : Int
  s : Int
  v : Int
  lo : S37
  hi : S37
def Sm.tup (x : Sm) : Int × Int × Int × Bool × Int × ByteArray × Bool × Int × ByteArray := (x.c, x.s, x.v, x.lo.f0, x.lo.f1, x.lo.f2, x.hi.f0, x.hi.f1, x.hi.f2)
def Sm.tup10 (x : Sm) (e : Int) : Int × Int × Int × Bool × Int × ByteArray × Bool × Int × ByteArray × Int := (x.c, x.s, x.v, x.lo.f0, x.lo.f1, x.lo.f2, x.hi.f0, x.hi.f1, x.hi.f2, e)
def zeroS : Sm := ⟨0, 0, 0, z37, z37⟩
def lessV (x y : S37) : Bool := Thy.less x.f0 x.f1 x.f2 y.f0 y.f1 y.f2
def joinV (a b : Sm) : Sm := ⟨wrap64 (a.c + b.c), wrap64 (a.s + b.s), wrap64 (a.v + b.v),
  if a.v ≤ 0 then (if b.v ≤ 0 then z37 else b.lo) else if b.v ≤ 0 then a.lo else if lessV b.lo a.lo then b.lo else a.lo,
  if a.v ≤ 0 then (if b.v ≤ 0 then z37 else b.hi) else if b.v ≤ 0 then a.hi else if lessV a.hi b.hi then b.hi else a.hi⟩
theorem sums_Join.is (a b : Sm) : sums_Join.f 3 a.c a.s a.v a.lo.f0 a.lo.f1 a.lo.f2 a.hi.f0 a.hi.f1 a.hi.f2 b.c b.s b.v b.lo.f0 b.lo.f1 b.lo.f2 b.hi.f0 b.hi.f1 b.hi.f2 = some (joinV a b).tup := by
  simp only [sums_Join.f, sums_Join.j0, sums_Join.j1, kinds_Compare_c.f, Option.bind_some, Thy.cmpV_lt, Thy.cmpV_gt, joinV, Sm.tup, lessV, z37]
  by_cases h1 : a.v ≤ 0
  · by_cases h2 : b.v ≤ 0 <;> simp [h1, h2]
  · by_cases h2 : b.v ≤ 0
    · simp [h1, h2]
    · simp only [h1, h2, if_false, Bool.false_eq_true]
      by_cases h3 : Thy.less b.lo.f0 b.lo.f1 b.lo.f2 a.lo.f0 a.lo.f1 a.lo.f2 = true <;> by_cases h4 : Thy.less a.hi.f0 a.hi.f1 a.hi.f2 b.hi.f0 b.hi.f1 b.hi.f2 = true <;> simp [h3, h4]
def sums_Join_c.f (a0_0 : Int) (a0_1 : Int) (a0_2 : Int) (a0_3 : Bool) (a0_4 : Int) (a0_5 : ByteArray) (a0_6 : Bool) (a0_7 : Int) (a0_8 : ByteArray) (a1_0 : Int) (a1_1 : Int) (a1_2 : Int) (a1_3 : Bool) (a1_4 : Int) (a1_5 : ByteArray) (a1_6 : Bool) (a1_7 : Int) (a1_8 : ByteArray) : Option (Int × Int × Int × Bool × Int × ByteArray × Bool × Int × ByteArray) :=
  some (joinV ⟨a0_0, a0_1, a0_2, ⟨a0_3, a0_4, a0_5⟩, ⟨a0_6, a0_7, a0_8⟩⟩ ⟨a1_0, a1_1, a1_2, ⟨a1_3, a1_4, a1_5⟩, ⟨a1_6, a1_7, a1_8⟩⟩).tup
theorem sums_Join_c.calls (a0_0 : Int) (a0_1 : Int) (a0_2 : Int) (a0_3 : Bool) (a0_4 : Int) (a0_5 : ByteArray) (a0_6 : Bool) (a0_7 : Int) (a0_8 : ByteArray) (a1_0 : Int) (a1_1 : Int) (a1_2 : Int) (a1_3 : Bool) (a1_4 : Int) (a1_5 : ByteArray) (a1_6 : Bool) (a1_7 : Int) (a1_8 : ByteArray) (r1 : Int) (r2 : Int) (r3 : Int) (r4 : Bool) (r5 : Int) (r6 : ByteArray) (r7 : Bool) (r8 : Int) (r9 : ByteArray) (w : World) (h : sums_Join_c.f a0_0 a0_1 a0_2 a0_3 a0_4 a0_5 a0_6 a0_7 a0_8 a1_0 a1_1 a1_2 a1_3 a1_4 a1_5 a1_6 a1_7 a1_8 = some (r1, r2, r3, r4, r5, r6, r7, r8, r9)) :
    Calls Try.prog 60 #[.agg #[.int .i64 a0_0, .int .i64 a0_1, .int .i64 a0_2, .bool a0_3, .int .i64 a0_4, .string a0_5, .bool a0_6, .int .i64 a0_7, .string a0_8], .agg #[.int .i64 a1_0, .int .i64 a1_1, .int .i64 a1_2, .bool a1_3, .int .i64 a1_4, .string a1_5, .bool a1_6, .int .i64 a1_7, .string a1_8]] w fun e w' => e = .returned (.agg #[.int .i64 r1, .int .i64 r2, .int .i64 r3, .bool r4, .int .i64 r5, .string r6, .bool r7, .int .i64 r8, .string r9]) ∧ Below w.heap.size w w' :=
  sums_Join.calls 3 _ _ _ _ _ _ _ _ _ _ _ _ _ _ _ _ _ _ _ _ _ _ _ _ _ _ _ w ((sums_Join.is ⟨a0_0, a0_1, a0_2, ⟨a0_3, a0_4, a0_5⟩, ⟨a0_6, a0_7, a0_8⟩⟩ ⟨a1_0, a1_1, a1_2, ⟨a1_3, a1_4, a1_5⟩, ⟨a1_6, a1_7, a1_8⟩⟩).trans h)


end Go.Proofs.Ythlelhndmnkmjaa.Pr
