-- printed by xprint.py
import Derived.Test.YthlelhndmnkmjaaPr0
import Derived.Test.YthlelhndmnkmjaaPrf50
namespace Go.Proofs.Ythlelhndmnkmjaa.Pr
open Go.RowKit Go.Proofs.YthlelhndmnkmjaaW PrintWords PrintLast PrintMore
set_option linter.unusedVariables false
set_option linter.unusedSimpArgs false

/-! ### tithebarnref18_Join: function 61 -/
mutual
def tithebarnref18_Join.j0 : Nat → Int → Int → Int → Bool → Int → ByteArray → Bool → Int → ByteArray → Int → Int → Int → Bool → Int → ByteArray → Bool → Int → ByteArray → Int → Int → Int → Bool → Int → ByteArray → Bool → Int → ByteArray → Option (Int × Int × Int × Bool × Int × ByteArray × Bool × Int × ByteArray)
 | 0, _, _, _, _, _, _, _, _, _, _, _, _, _, _, _, _, _, _, _, _, _, _, _, _, _, _, _ => none
 | k + 1, x272000, x272001, x272002, x272003, x272004, x272005, x272006, x272007, x272008, x273000, x273001, x273002, x273003, x273004, x273005, x273006, x273007, x273008, x275000, x275001, x275002, x275003, x275004, x275005, x275006, x275007, x275008 => if x273002 > 0 then (if x272002 ≤ 0 then (tithebarnref18_Join.j1 k true x272000 x272001 x272002 x272003 x272004 x272005 x272006 x272007 x272008 x273000 x273001 x273002 x273003 x273004 x273005 x273006 x273007 x273008 x275000 x275001 x275002 x275003 x275004 x275005 x275006 x275007 x275008) else ((tithebarnref02_Ahead_c.f x273003 x273004 x273005 x275003 x275004 x275005).bind fun t275 => (tithebarnref18_Join.j1 k t275 x272000 x272001 x272002 x272003 x272004 x272005 x272006 x272007 x272008 x273000 x273001 x273002 x273003 x273004 x273005 x273006 x273007 x273008 x275000 x275001 x275002 x275003 x275004 x275005 x275006 x275007 x275008))) else (tithebarnref18_Join.j1 k false x272000 x272001 x272002 x272003 x272004 x272005 x272006 x272007 x272008 x273000 x273001 x273002 x273003 x273004 x273005 x273006 x273007 x273008 x275000 x275001 x275002 x275003 x275004 x275005 x275006 x275007 x275008)
def tithebarnref18_Join.j1 : Nat → Bool → Int → Int → Int → Bool → Int → ByteArray → Bool → Int → ByteArray → Int → Int → Int → Bool → Int → ByteArray → Bool → Int → ByteArray → Int → Int → Int → Bool → Int → ByteArray → Bool → Int → ByteArray → Option (Int × Int × Int × Bool × Int × ByteArray × Bool × Int × ByteArray)
 | 0, _, _, _, _, _, _, _, _, _, _, _, _, _, _, _, _, _, _, _, _, _, _, _, _, _, _, _, _ => none
 | k + 1, x48, x272000, x272001, x272002, x272003, x272004, x272005, x272006, x272007, x272008, x273000, x273001, x273002, x273003, x273004, x273005, x273006, x273007, x273008, x275000, x275001, x275002, x275003, x275004, x275005, x275006, x275007, x275008 => if x48 = true then (tithebarnref18_Join.j2 k x272000 x272001 x272002 x272003 x272004 x272005 x272006 x272007 x272008 x273000 x273001 x273002 x273003 x273004 x273005 x273006 x273007 x273008 x275000 x275001 x275002 x273003 x273004 x273005 x275006 x275007 x275008) else (tithebarnref18_Join.j2 k x272000 x272001 x272002 x272003 x272004 x272005 x272006 x272007 x272008 x273000 x273001 x273002 x273003 x273004 x273005 x273006 x273007 x273008 x275000 x275001 x275002 x275003 x275004 x275005 x275006 x275007 x275008)
def tithebarnref18_Join.j2 : Nat → Int → Int → Int → Bool → Int → ByteArray → Bool → Int → ByteArray → Int → Int → Int → Bool → Int → ByteArray → Bool → Int → ByteArray → Int → Int → Int → Bool → Int → ByteArray → Bool → Int → ByteArray → Option (Int × Int × Int × Bool × Int × ByteArray × Bool × Int × ByteArray)
 | 0, _, _, _, _, _, _, _, _, _, _, _, _, _, _, _, _, _, _, _, _, _, _, _, _, _, _, _ => none
 | k + 1, x272000, x272001, x272002, x272003, x272004, x272005, x272006, x272007, x272008, x273000, x273001, x273002, x273003, x273004, x273005, x273006, x273007, x273008, x275000, x275001, x275002, x275003, x275004, x275005, x275006, x275007, x275008 => if x273002 > 0 then (if x272002 ≤ 0 then (tithebarnref18_Join.j3 k true x273000 x273001 x273002 x273003 x273004 x273005 x273006 x273007 x273008 x275000 x275001 x275002 x275003 x275004 x275005 x275006 x275007 x275008) else ((tithebarnref02_Ahead_c.f x275006 x275007 x275008 x273006 x273007 x273008).bind fun t276 => (tithebarnref18_Join.j3 k t276 x273000 x273001 x273002 x273003 x273004 x273005 x273006 x273007 x273008 x275000 x275001 x275002 x275003 x275004 x275005 x275006 x275007 x275008))) else (tithebarnref18_Join.j3 k false x273000 x273001 x273002 x273003 x273004 x273005 x273006 x273007 x273008 x275000 x275001 x275002 x275003 x275004 x275005 x275006 x275007 x275008)
def tithebarnref18_Join.j3 : Nat → Bool → Int → Int → Int → Bool → Int → ByteArray → Bool → Int → ByteArray → Int → Int → Int → Bool → Int → ByteArray → Bool → Int → ByteArray → Option (Int × Int × Int × Bool × Int × ByteArray × Bool × Int × ByteArray)
 | 0, _, _, _, _, _, _, _, _, _, _, _, _, _, _, _, _, _, _, _ => none
 | k + 1, x66, x273000, x273001, x273002, x273003, x273004, x273005, x273006, x273007, x273008, x275000, x275001, x275002, x275003, x275004, x275005, x275006, x275007, x275008 => if x66 = true then (some (x275000, x275001, x275002, x275003, x275004, x275005, x273006, x273007, x273008)) else (some (x275000, x275001, x275002, x275003, x275004, x275005, x275006, x275007, x275008))
end
def tithebarnref18_Join.f (k : Nat) (a0_0 : Int) (a0_1 : Int) (a0_2 : Int) (a0_3 : Bool) (a0_4 : Int) (a0_5 : ByteArray) (a0_6 : Bool) (a0_7 : Int) (a0_8 : ByteArray) (a1_0 : Int) (a1_1 : Int) (a1_2 : Int) (a1_3 : Bool) (a1_4 : Int) (a1_5 : ByteArray) (a1_6 : Bool) (a1_7 : Int) (a1_8 : ByteArray) : Option (Int × Int × Int × Bool × Int × ByteArray × Bool × Int × ByteArray) := if a0_2 > 0 then (tithebarnref18_Join.j0 k a0_0 a0_1 a0_2 a0_3 a0_4 a0_5 a0_6 a0_7 a0_8 a1_0 a1_1 a1_2 a1_3 a1_4 a1_5 a1_6 a1_7 a1_8 (wrap64 (a0_0 + a1_0)) (wrap64 (IntKind.u64.wrap ((IntKind.u64.wrap (a0_1)) + (IntKind.u64.wrap (a1_1))))) (wrap64 (a0_2 + a1_2)) a0_3 a0_4 a0_5 a0_6 a0_7 a0_8) else (tithebarnref18_Join.j0 k a0_0 a0_1 a0_2 a0_3 a0_4 a0_5 a0_6 a0_7 a0_8 a1_0 a1_1 a1_2 a1_3 a1_4 a1_5 a1_6 a1_7 a1_8 (wrap64 (a0_0 + a1_0)) (wrap64 (IntKind.u64.wrap ((IntKind.u64.wrap (a0_1)) + (IntKind.u64.wrap (a1_1))))) (wrap64 (a0_2 + a1_2)) false 0 (⟨#[]⟩ : ByteArray) false 0 (⟨#[]⟩ : ByteArray))
theorem tithebarnref18_Join.mono_l : ∀ k, (∀ y0 y1 y2 y3 y4 y5 y6 y7 y8 y9 y10 y11 y12 y13 y14 y15 y16 y17 y18 y19 y20 y21 y22 y23 y24 y25 y26, LeO (tithebarnref18_Join.j0 k y0 y1 y2 y3 y4 y5 y6 y7 y8 y9 y10 y11 y12 y13 y14 y15 y16 y17 y18 y19 y20 y21 y22 y23 y24 y25 y26) (tithebarnref18_Join.j0 (k + 1) y0 y1 y2 y3 y4 y5 y6 y7 y8 y9 y10 y11 y12 y13 y14 y15 y16 y17 y18 y19 y20 y21 y22 y23 y24 y25 y26)) ∧ (∀ y0 y1 y2 y3 y4 y5 y6 y7 y8 y9 y10 y11 y12 y13 y14 y15 y16 y17 y18 y19 y20 y21 y22 y23 y24 y25 y26 y27, LeO (tithebarnref18_Join.j1 k y0 y1 y2 y3 y4 y5 y6 y7 y8 y9 y10 y11 y12 y13 y14 y15 y16 y17 y18 y19 y20 y21 y22 y23 y24 y25 y26 y27) (tithebarnref18_Join.j1 (k + 1) y0 y1 y2 y3 y4 y5 y6 y7 y8 y9 y10 y11 y12 y13 y14 y15 y16 y17 y18 y19 y20 y21 y22 y23 y24 y25 y26 y27)) ∧ (∀ y0 y1 y2 y3 y4 y5 y6 y7 y8 y9 y10 y11 y12 y13 y14 y15 y16 y17 y18 y19 y20 y21 y22 y23 y24 y25 y26, LeO (tithebarnref18_Join.j2 k y0 y1 y2 y3 y4 y5 y6 y7 y8 y9 y10 y11 y12 y13 y14 y15 y16 y17 y18 y19 y20 y21 y22 y23 y24 y25 y26) (tithebarnref18_Join.j2 (k + 1) y0 y1 y2 y3 y4 y5 y6 y7 y8 y9 y10 y11 y12 y13 y14 y15 y16 y17 y18 y19 y20 y21 y22 y23 y24 y25 y26)) ∧ (∀ y0 y1 y2 y3 y4 y5 y6 y7 y8 y9 y10 y11 y12 y13 y14 y15 y16 y17 y18, LeO (tithebarnref18_Join.j3 k y0 y1 y2 y3 y4 y5 y6 y7 y8 y9 y10 y11 y12 y13 y14 y15 y16 y17 y18) (tithebarnref18_Join.j3 (k + 1) y0 y1 y2 y3 y4 y5 y6 y7 y8 y9 y10 y11 y12 y13 y14 y15 y16 y17 y18))
 | 0 => ⟨fun _ _ _ _ _ _ _ _ _ _ _ _ _ _ _ _ _ _ _ _ _ _ _ _ _ _ _ r h => by simp [tithebarnref18_Join.j0] at h, fun _ _ _ _ _ _ _ _ _ _ _ _ _ _ _ _ _ _ _ _ _ _ _ _ _ _ _ _ r h => by simp [tithebarnref18_Join.j1] at h, fun _ _ _ _ _ _ _ _ _ _ _ _ _ _ _ _ _ _ _ _ _ _ _ _ _ _ _ r h => by simp [tithebarnref18_Join.j2] at h, fun _ _ _ _ _ _ _ _ _ _ _ _ _ _ _ _ _ _ _ r h => by simp [tithebarnref18_Join.j3] at h⟩
 | k + 1 => by
  obtain ⟨ih0, ih1, ih2, ih3⟩ := tithebarnref18_Join.mono_l k
  refine ⟨?_, ?_, ?_, ?_⟩
  ·intro y0 y1 y2 y3 y4 y5 y6 y7 y8 y9 y10 y11 y12 y13 y14 y15 y16 y17 y18 y19 y20 y21 y22 y23 y24 y25 y26
   unfold tithebarnref18_Join.j0
   repeat' first
   | (with_reducible exact ih0 _ _ _ _ _ _ _ _ _ _ _ _ _ _ _ _ _ _ _ _ _ _ _ _ _ _ _)
   | (with_reducible exact ih1 _ _ _ _ _ _ _ _ _ _ _ _ _ _ _ _ _ _ _ _ _ _ _ _ _ _ _ _)
   | (with_reducible exact ih2 _ _ _ _ _ _ _ _ _ _ _ _ _ _ _ _ _ _ _ _ _ _ _ _ _ _ _)
   | (with_reducible exact ih3 _ _ _ _ _ _ _ _ _ _ _ _ _ _ _ _ _ _ _)
   | (with_reducible exact LeO.refl _)
   | (with_reducible exact LeO.none _)
   | (with_reducible refine LeO.ite ?_ ?_)
   | (with_reducible refine LeO.bind ?_ (fun _ => ?_))
  ·intro y0 y1 y2 y3 y4 y5 y6 y7 y8 y9 y10 y11 y12 y13 y14 y15 y16 y17 y18 y19 y20 y21 y22 y23 y24 y25 y26 y27
   unfold tithebarnref18_Join.j1
   repeat' first
   | (with_reducible exact ih0 _ _ _ _ _ _ _ _ _ _ _ _ _ _ _ _ _ _ _ _ _ _ _ _ _ _ _)
   | (with_reducible exact ih1 _ _ _ _ _ _ _ _ _ _ _ _ _ _ _ _ _ _ _ _ _ _ _ _ _ _ _ _)
   | (with_reducible exact ih2 _ _ _ _ _ _ _ _ _ _ _ _ _ _ _ _ _ _ _ _ _ _ _ _ _ _ _)
   | (with_reducible exact ih3 _ _ _ _ _ _ _ _ _ _ _ _ _ _ _ _ _ _ _)
   | (with_reducible exact LeO.refl _)
   | (with_reducible exact LeO.none _)
   | (with_reducible refine LeO.ite ?_ ?_)
   | (with_reducible refine LeO.bind ?_ (fun _ => ?_))
  ·intro y0 y1 y2 y3 y4 y5 y6 y7 y8 y9 y10 y11 y12 y13 y14 y15 y16 y17 y18 y19 y20 y21 y22 y23 y24 y25 y26
   unfold tithebarnref18_Join.j2
   repeat' first
   | (with_reducible exact ih0 _ _ _ _ _ _ _ _ _ _ _ _ _ _ _ _ _ _ _ _ _ _ _ _ _ _ _)
   | (with_reducible exact ih1 _ _ _ _ _ _ _ _ _ _ _ _ _ _ _ _ _ _ _ _ _ _ _ _ _ _ _ _)
   | (with_reducible exact ih2 _ _ _ _ _ _ _ _ _ _ _ _ _ _ _ _ _ _ _ _ _ _ _ _ _ _ _)
   | (with_reducible exact ih3 _ _ _ _ _ _ _ _ _ _ _ _ _ _ _ _ _ _ _)
   | (with_reducible exact LeO.refl _)
   | (with_reducible exact LeO.none _)
   | (with_reducible refine LeO.ite ?_ ?_)
   | (with_reducible refine LeO.bind ?_ (fun _ => ?_))
  ·intro y0 y1 y2 y3 y4 y5 y6 y7 y8 y9 y10 y11 y12 y13 y14 y15 y16 y17 y18
   unfold tithebarnref18_Join.j3
   repeat' first
   | (with_reducible exact ih0 _ _ _ _ _ _ _ _ _ _ _ _ _ _ _ _ _ _ _ _ _ _ _ _ _ _ _)
   | (with_reducible exact ih1 _ _ _ _ _ _ _ _ _ _ _ _ _ _ _ _ _ _ _ _ _ _ _ _ _ _ _ _)
   | (with_reducible exact ih2 _ _ _ _ _ _ _ _ _ _ _ _ _ _ _ _ _ _ _ _ _ _ _ _ _ _ _)
   | (with_reducible exact ih3 _ _ _ _ _ _ _ _ _ _ _ _ _ _ _ _ _ _ _)
   | (with_reducible exact LeO.refl _)
   | (with_reducible exact LeO.none _)
   | (with_reducible refine LeO.ite ?_ ?_)
   | (with_reducible refine LeO.bind ?_ (fun _ => ?_))
theorem tithebarnref18_Join.mono : ∀ a0 a1 a2 a3 a4 a5 a6 a7 a8 a9 a10 a11 a12 a13 a14 a15 a16 a17 k, LeO (tithebarnref18_Join.f k a0 a1 a2 a3 a4 a5 a6 a7 a8 a9 a10 a11 a12 a13 a14 a15 a16 a17) (tithebarnref18_Join.f (k + 1) a0 a1 a2 a3 a4 a5 a6 a7 a8 a9 a10 a11 a12 a13 a14 a15 a16 a17) := by
 intro a0 a1 a2 a3 a4 a5 a6 a7 a8 a9 a10 a11 a12 a13 a14 a15 a16 a17 k
 obtain ⟨ih0, ih1, ih2, ih3⟩ := tithebarnref18_Join.mono_l k
 unfold tithebarnref18_Join.f
 repeat' first
   | (with_reducible exact ih0 _ _ _ _ _ _ _ _ _ _ _ _ _ _ _ _ _ _ _ _ _ _ _ _ _ _ _)
   | (with_reducible exact ih1 _ _ _ _ _ _ _ _ _ _ _ _ _ _ _ _ _ _ _ _ _ _ _ _ _ _ _ _)
   | (with_reducible exact ih2 _ _ _ _ _ _ _ _ _ _ _ _ _ _ _ _ _ _ _ _ _ _ _ _ _ _ _)
   | (with_reducible exact ih3 _ _ _ _ _ _ _ _ _ _ _ _ _ _ _ _ _ _ _)
   | (with_reducible exact LeO.refl _)
   | (with_reducible exact LeO.none _)
   | (with_reducible refine LeO.ite ?_ ?_)
   | (with_reducible refine LeO.bind ?_ (fun _ => ?_))
set_option maxHeartbeats 8000000 in
set_option maxRecDepth 100000 in
theorem tithebarnref18_Join.calls (k : Nat) (a0_0 : Int) (a0_1 : Int) (a0_2 : Int) (a0_3 : Bool) (a0_4 : Int) (a0_5 : ByteArray) (a0_6 : Bool) (a0_7 : Int) (a0_8 : ByteArray) (a1_0 : Int) (a1_1 : Int) (a1_2 : Int) (a1_3 : Bool) (a1_4 : Int) (a1_5 : ByteArray) (a1_6 : Bool) (a1_7 : Int) (a1_8 : ByteArray) (r1 : Int) (r2 : Int) (r3 : Int) (r4 : Bool) (r5 : Int) (r6 : ByteArray) (r7 : Bool) (r8 : Int) (r9 : ByteArray) (w : World) (h : tithebarnref18_Join.f k a0_0 a0_1 a0_2 a0_3 a0_4 a0_5 a0_6 a0_7 a0_8 a1_0 a1_1 a1_2 a1_3 a1_4 a1_5 a1_6 a1_7 a1_8 = some (r1, r2, r3, r4, r5, r6, r7, r8, r9)) :
  Calls Try.prog 61 #[.agg #[.int .i64 a0_0, .int .i64 a0_1, .int .i64 a0_2, .bool a0_3, .int .i64 a0_4, .string a0_5, .bool a0_6, .int .i64 a0_7, .string a0_8], .agg #[.int .i64 a1_0, .int .i64 a1_1, .int .i64 a1_2, .bool a1_3, .int .i64 a1_4, .string a1_5, .bool a1_6, .int .i64 a1_7, .string a1_8]] w fun e w' => e = .returned (.agg #[.int .i64 r1, .int .i64 r2, .int .i64 r3, .bool r4, .int .i64 r5, .string r6, .bool r7, .int .i64 r8, .string r9]) ∧ Below w.heap.size w w' := by
 have hu47 := Try.underlying47
 have hu37 := Try.underlying37
 have HB := Aside0.mk (Below.refl w.heap.size w)
 have H : (if a0_2 > 0 then (tithebarnref18_Join.j0 k a0_0 a0_1 a0_2 a0_3 a0_4 a0_5 a0_6 a0_7 a0_8 a1_0 a1_1 a1_2 a1_3 a1_4 a1_5 a1_6 a1_7 a1_8 (wrap64 (a0_0 + a1_0)) (wrap64 (IntKind.u64.wrap ((IntKind.u64.wrap (a0_1)) + (IntKind.u64.wrap (a1_1))))) (wrap64 (a0_2 + a1_2)) a0_3 a0_4 a0_5 a0_6 a0_7 a0_8) else (tithebarnref18_Join.j0 k a0_0 a0_1 a0_2 a0_3 a0_4 a0_5 a0_6 a0_7 a0_8 a1_0 a1_1 a1_2 a1_3 a1_4 a1_5 a1_6 a1_7 a1_8 (wrap64 (a0_0 + a1_0)) (wrap64 (IntKind.u64.wrap ((IntKind.u64.wrap (a0_1)) + (IntKind.u64.wrap (a1_1))))) (wrap64 (a0_2 + a1_2)) false 0 (⟨#[]⟩ : ByteArray) false 0 (⟨#[]⟩ : ByteArray))) = some (r1, r2, r3, r4, r5, r6, r7, r8, r9) := h
 clear h
 have HC3 := Aside0.mk H
 clear H
 go_enter Try.func61, Try.ntmps61
 go_upto_if 27 with (first | ((with_reducible refine gate_dst (N := 2) rfl ?_); refine box_event ?hg (N := 2) ?hd (cs := #[.int .i64 a0_0, .int .i64 a0_1, .int .i64 a0_2, .bool a0_3, .int .i64 a0_4, .string a0_5, .bool a0_6, .int .i64 a0_7, .string a0_8]) (t := 47) ?hr ?_; (case hd => rfl); (case hg => rfl); (case hr => first | (go_simp; done) | (go_simp; rfl)); intro gb271 hg w4 hbox hb; have n0_ := Aside0.mk (below_step (by with_reducible repeat first | exact HB.out | apply below_alloc | apply pw_below_drewN | apply below_drew1) hb); have n1_ := Aside0.mk (hbox); have n2_ := Aside0.mk ((by rw [hg]; exact (below_size (by with_reducible repeat first | exact HB.out | apply below_alloc | apply pw_below_drewN | apply below_drew1)) : w.heap.size ≤ gb271)); have n3_ := Aside0.mk ((by rw [hg]; exact (below_size (by with_reducible repeat first | exact HB.out | apply below_alloc | apply pw_below_drewN | apply below_drew1)) : w.heap.size ≤ gb271)); clear HB; have HB := n0_; have BK271 := n1_; have GW271 := n2_; have GE271 := n3_; clear n0_ n1_ n2_ n3_; clear hb hbox hg) | ((with_reducible refine gate_dst (N := 3) rfl ?_); refine box_event ?hg (N := 3) ?hd (cs := #[.int .i64 a1_0, .int .i64 a1_1, .int .i64 a1_2, .bool a1_3, .int .i64 a1_4, .string a1_5, .bool a1_6, .int .i64 a1_7, .string a1_8]) (t := 47) ?hr ?_; (case hd => rfl); (case hg => rfl); (case hr => first | (go_simp; done) | (go_simp; rfl)); intro gb272 hg w5 hbox hb; have n0_ := Aside0.mk (blk_below (g := gb271) (o := .cells #[.int .i64 a0_0, .int .i64 a0_1, .int .i64 a0_2, .bool a0_3, .int .i64 a0_4, .string a0_5, .bool a0_6, .int .i64 a0_7, .string a0_8] 47 (0, 0)) (by (with_reducible repeat (first | refine blk_drewN ?_ _ | refine blk_drew ?_ | refine blk_alloc ?_ _)); exact BK271.out) hb); have n1_ := Aside0.mk (below_step (by with_reducible repeat first | exact HB.out | apply below_alloc | apply pw_below_drewN | apply below_drew1 | refine below_set ?_ GE271.out) hb); have n2_ := Aside0.mk (hbox); have n3_ := Aside0.mk ((by rw [hg]; exact (below_size (by with_reducible repeat first | exact HB.out | apply below_alloc | apply pw_below_drewN | apply below_drew1 | refine below_set ?_ GE271.out)) : w.heap.size ≤ gb272)); have n4_ := Aside0.mk ((by rw [hg]; exact (below_size (by with_reducible repeat first | exact HB.out | apply below_alloc | apply pw_below_drewN | apply below_drew1 | refine below_set ?_ GE271.out)) : w.heap.size ≤ gb272)); have n5_ := Aside0.mk ((by rw [hg]; exact Nat.ne_of_lt (blk_lt (g := gb271) (o := .cells #[.int .i64 a0_0, .int .i64 a0_1, .int .i64 a0_2, .bool a0_3, .int .i64 a0_4, .string a0_5, .bool a0_6, .int .i64 a0_7, .string a0_8] 47 (0, 0)) (by (with_reducible repeat (first | refine blk_drewN ?_ _ | refine blk_drew ?_ | refine blk_alloc ?_ _)); exact BK271.out)) : gb271 ≠ gb272)); have n6_ := Aside0.mk ((by rw [hg]; exact Nat.ne_of_gt (blk_lt (g := gb271) (o := .cells #[.int .i64 a0_0, .int .i64 a0_1, .int .i64 a0_2, .bool a0_3, .int .i64 a0_4, .string a0_5, .bool a0_6, .int .i64 a0_7, .string a0_8] 47 (0, 0)) (by (with_reducible repeat (first | refine blk_drewN ?_ _ | refine blk_drew ?_ | refine blk_alloc ?_ _)); exact BK271.out)) : gb272 ≠ gb271)); clear BK271; clear HB; have BK271 := n0_; have HB := n1_; have BK272 := n2_; have GW272 := n3_; have GE272 := n4_; have NB271_272 := n5_; have NB272_271 := n6_; clear n0_ n1_ n2_ n3_ n4_ n5_ n6_; clear hb hbox hg) | ((with_reducible refine gate_dst (N := 4) rfl ?_); refine box_event ?hg (N := 4) ?hd (cs := #[.int .i64 0, .int .i64 0, .int .i64 0, .bool false, .int .i64 0, .string (⟨#[]⟩ : ByteArray), .bool false, .int .i64 0, .string (⟨#[]⟩ : ByteArray)]) (t := 47) ?hr ?_; (case hd => rfl); (case hg => rfl); (case hr => first | (go_simp; done) | (go_simp; rfl)); intro gb273 hg w6 hbox hb; have n0_ := Aside0.mk (blk_below (g := gb271) (o := .cells #[.int .i64 a0_0, .int .i64 a0_1, .int .i64 a0_2, .bool a0_3, .int .i64 a0_4, .string a0_5, .bool a0_6, .int .i64 a0_7, .string a0_8] 47 (0, 0)) (by (with_reducible repeat (first | refine blk_drewN ?_ _ | refine blk_drew ?_ | refine blk_alloc ?_ _)); exact BK271.out) hb); have n1_ := Aside0.mk (blk_below (g := gb272) (o := .cells #[.int .i64 a1_0, .int .i64 a1_1, .int .i64 a1_2, .bool a1_3, .int .i64 a1_4, .string a1_5, .bool a1_6, .int .i64 a1_7, .string a1_8] 47 (0, 0)) (by (with_reducible repeat (first | refine blk_drewN ?_ _ | refine blk_drew ?_ | refine blk_alloc ?_ _)); exact BK272.out) hb); have n2_ := Aside0.mk (below_step (by with_reducible repeat first | exact HB.out | apply below_alloc | apply pw_below_drewN | apply below_drew1 | refine below_set ?_ GE271.out | refine below_set ?_ GE272.out) hb); have n3_ := Aside0.mk (hbox); have n4_ := Aside0.mk ((by rw [hg]; exact (below_size (by with_reducible repeat first | exact HB.out | apply below_alloc | apply pw_below_drewN | apply below_drew1 | refine below_set ?_ GE271.out | refine below_set ?_ GE272.out)) : w.heap.size ≤ gb273)); have n5_ := Aside0.mk ((by rw [hg]; exact (below_size (by with_reducible repeat first | exact HB.out | apply below_alloc | apply pw_below_drewN | apply below_drew1 | refine below_set ?_ GE271.out | refine below_set ?_ GE272.out)) : w.heap.size ≤ gb273)); have n6_ := Aside0.mk ((by rw [hg]; exact Nat.ne_of_lt (blk_lt (g := gb271) (o := .cells #[.int .i64 a0_0, .int .i64 a0_1, .int .i64 a0_2, .bool a0_3, .int .i64 a0_4, .string a0_5, .bool a0_6, .int .i64 a0_7, .string a0_8] 47 (0, 0)) (by (with_reducible repeat (first | refine blk_drewN ?_ _ | refine blk_drew ?_ | refine blk_alloc ?_ _)); exact BK271.out)) : gb271 ≠ gb273)); have n7_ := Aside0.mk ((by rw [hg]; exact Nat.ne_of_gt (blk_lt (g := gb271) (o := .cells #[.int .i64 a0_0, .int .i64 a0_1, .int .i64 a0_2, .bool a0_3, .int .i64 a0_4, .string a0_5, .bool a0_6, .int .i64 a0_7, .string a0_8] 47 (0, 0)) (by (with_reducible repeat (first | refine blk_drewN ?_ _ | refine blk_drew ?_ | refine blk_alloc ?_ _)); exact BK271.out)) : gb273 ≠ gb271)); have n8_ := Aside0.mk ((by rw [hg]; exact Nat.ne_of_lt (blk_lt (g := gb272) (o := .cells #[.int .i64 a1_0, .int .i64 a1_1, .int .i64 a1_2, .bool a1_3, .int .i64 a1_4, .string a1_5, .bool a1_6, .int .i64 a1_7, .string a1_8] 47 (0, 0)) (by (with_reducible repeat (first | refine blk_drewN ?_ _ | refine blk_drew ?_ | refine blk_alloc ?_ _)); exact BK272.out)) : gb272 ≠ gb273)); have n9_ := Aside0.mk ((by rw [hg]; exact Nat.ne_of_gt (blk_lt (g := gb272) (o := .cells #[.int .i64 a1_0, .int .i64 a1_1, .int .i64 a1_2, .bool a1_3, .int .i64 a1_4, .string a1_5, .bool a1_6, .int .i64 a1_7, .string a1_8] 47 (0, 0)) (by (with_reducible repeat (first | refine blk_drewN ?_ _ | refine blk_drew ?_ | refine blk_alloc ?_ _)); exact BK272.out)) : gb273 ≠ gb272)); clear BK271; clear BK272; clear HB; have BK271 := n0_; have BK272 := n1_; have HB := n2_; have BK273 := n3_; have GW273 := n4_; have GE273 := n5_; have NB271_273 := n6_; have NB273_271 := n7_; have NB272_273 := n8_; have NB273_272 := n9_; clear n0_ n1_ n2_ n3_ n4_ n5_ n6_ n7_ n8_ n9_; clear hb hbox hg; have hnb7 := NB271_272.out; have hnc7 := NB272_271.out; have hnb8 := NB271_273.out; have hnc8 := NB273_271.out; obtain ⟨hcz9_0, hcz9_1, hcz9_2, hcz9_3, hcz9_4, hcz9_5, hcz9_6, hcz9_7, hcz9_8⟩ := bc9 BK271.out; obtain ⟨hfz9_0, hfz9_1, hfz9_2, hfz9_3, hfz9_4, hfz9_5, hfz9_6, hfz9_7, hfz9_8⟩ := bf9 BK271.out; have hnb10 := NB272_273.out; have hnc10 := NB273_272.out; obtain ⟨hcz11_0, hcz11_1, hcz11_2, hcz11_3, hcz11_4, hcz11_5, hcz11_6, hcz11_7, hcz11_8⟩ := bc9 BK272.out; obtain ⟨hfz11_0, hfz11_1, hfz11_2, hfz11_3, hfz11_4, hfz11_5, hfz11_6, hfz11_7, hfz11_8⟩ := bf9 BK272.out) | ((with_reducible refine gate_dst (N := 5) rfl ?_); refine box_event ?hg (N := 5) ?hd (cs := #[.int .i64 0, .int .i64 0, .int .i64 0, .bool false, .int .i64 0, .string (⟨#[]⟩ : ByteArray), .bool false, .int .i64 0, .string (⟨#[]⟩ : ByteArray)]) (t := 47) ?hr ?_; (case hd => rfl); (case hg => rfl); (case hr => first | (go_simp; done) | (go_simp; rfl)); intro gb274 hg w12 hbox hb; have n0_ := Aside0.mk (blk_below (g := gb271) (o := .cells #[.int .i64 a0_0, .int .i64 a0_1, .int .i64 a0_2, .bool a0_3, .int .i64 a0_4, .string a0_5, .bool a0_6, .int .i64 a0_7, .string a0_8] 47 (0, 0)) (by (with_reducible repeat (first | refine blk_drewN ?_ _ | refine blk_drew ?_ | refine blk_alloc ?_ _)); exact BK271.out) hb); have n1_ := Aside0.mk (blk_below (g := gb272) (o := .cells #[.int .i64 a1_0, .int .i64 a1_1, .int .i64 a1_2, .bool a1_3, .int .i64 a1_4, .string a1_5, .bool a1_6, .int .i64 a1_7, .string a1_8] 47 (0, 0)) (by (with_reducible repeat (first | refine blk_drewN ?_ _ | refine blk_drew ?_ | refine blk_alloc ?_ _)); exact BK272.out) hb); have n2_ := Aside0.mk (blk_below (g := gb273) (o := .cells #[.int .i64 0, .int .i64 0, .int .i64 0, .bool false, .int .i64 0, .string (⟨#[]⟩ : ByteArray), .bool false, .int .i64 0, .string (⟨#[]⟩ : ByteArray)] 47 (0, 0)) (by (with_reducible repeat (first | refine blk_drewN ?_ _ | refine blk_drew ?_ | refine blk_alloc ?_ _)); exact BK273.out) hb); have n3_ := Aside0.mk (below_step (by with_reducible repeat first | exact HB.out | apply below_alloc | apply pw_below_drewN | apply below_drew1 | refine below_set ?_ GE271.out | refine below_set ?_ GE272.out | refine below_set ?_ GE273.out) hb); have n4_ := Aside0.mk (hbox); have n5_ := Aside0.mk ((by rw [hg]; exact (below_size (by with_reducible repeat first | exact HB.out | apply below_alloc | apply pw_below_drewN | apply below_drew1 | refine below_set ?_ GE271.out | refine below_set ?_ GE272.out | refine below_set ?_ GE273.out)) : w.heap.size ≤ gb274)); have n6_ := Aside0.mk ((by rw [hg]; exact (below_size (by with_reducible repeat first | exact HB.out | apply below_alloc | apply pw_below_drewN | apply below_drew1 | refine below_set ?_ GE271.out | refine below_set ?_ GE272.out | refine below_set ?_ GE273.out)) : w.heap.size ≤ gb274)); have n7_ := Aside0.mk ((by rw [hg]; exact Nat.ne_of_lt (blk_lt (g := gb271) (o := .cells #[.int .i64 a0_0, .int .i64 a0_1, .int .i64 a0_2, .bool a0_3, .int .i64 a0_4, .string a0_5, .bool a0_6, .int .i64 a0_7, .string a0_8] 47 (0, 0)) (by (with_reducible repeat (first | refine blk_drewN ?_ _ | refine blk_drew ?_ | refine blk_alloc ?_ _)); exact BK271.out)) : gb271 ≠ gb274)); have n8_ := Aside0.mk ((by rw [hg]; exact Nat.ne_of_gt (blk_lt (g := gb271) (o := .cells #[.int .i64 a0_0, .int .i64 a0_1, .int .i64 a0_2, .bool a0_3, .int .i64 a0_4, .string a0_5, .bool a0_6, .int .i64 a0_7, .string a0_8] 47 (0, 0)) (by (with_reducible repeat (first | refine blk_drewN ?_ _ | refine blk_drew ?_ | refine blk_alloc ?_ _)); exact BK271.out)) : gb274 ≠ gb271)); have n9_ := Aside0.mk ((by rw [hg]; exact Nat.ne_of_lt (blk_lt (g := gb272) (o := .cells #[.int .i64 a1_0, .int .i64 a1_1, .int .i64 a1_2, .bool a1_3, .int .i64 a1_4, .string a1_5, .bool a1_6, .int .i64 a1_7, .string a1_8] 47 (0, 0)) (by (with_reducible repeat (first | refine blk_drewN ?_ _ | refine blk_drew ?_ | refine blk_alloc ?_ _)); exact BK272.out)) : gb272 ≠ gb274)); have n10_ := Aside0.mk ((by rw [hg]; exact Nat.ne_of_gt (blk_lt (g := gb272) (o := .cells #[.int .i64 a1_0, .int .i64 a1_1, .int .i64 a1_2, .bool a1_3, .int .i64 a1_4, .string a1_5, .bool a1_6, .int .i64 a1_7, .string a1_8] 47 (0, 0)) (by (with_reducible repeat (first | refine blk_drewN ?_ _ | refine blk_drew ?_ | refine blk_alloc ?_ _)); exact BK272.out)) : gb274 ≠ gb272)); have n11_ := Aside0.mk ((by rw [hg]; exact Nat.ne_of_lt (blk_lt (g := gb273) (o := .cells #[.int .i64 0, .int .i64 0, .int .i64 0, .bool false, .int .i64 0, .string (⟨#[]⟩ : ByteArray), .bool false, .int .i64 0, .string (⟨#[]⟩ : ByteArray)] 47 (0, 0)) (by (with_reducible repeat (first | refine blk_drewN ?_ _ | refine blk_drew ?_ | refine blk_alloc ?_ _)); exact BK273.out)) : gb273 ≠ gb274)); have n12_ := Aside0.mk ((by rw [hg]; exact Nat.ne_of_gt (blk_lt (g := gb273) (o := .cells #[.int .i64 0, .int .i64 0, .int .i64 0, .bool false, .int .i64 0, .string (⟨#[]⟩ : ByteArray), .bool false, .int .i64 0, .string (⟨#[]⟩ : ByteArray)] 47 (0, 0)) (by (with_reducible repeat (first | refine blk_drewN ?_ _ | refine blk_drew ?_ | refine blk_alloc ?_ _)); exact BK273.out)) : gb274 ≠ gb273)); clear BK271; clear BK272; clear BK273; clear HB; have BK271 := n0_; have BK272 := n1_; have BK273 := n2_; have HB := n3_; have BK274 := n4_; have GW274 := n5_; have GE274 := n6_; have NB271_274 := n7_; have NB274_271 := n8_; have NB272_274 := n9_; have NB274_272 := n10_; have NB273_274 := n11_; have NB274_273 := n12_; clear n0_ n1_ n2_ n3_ n4_ n5_ n6_ n7_ n8_ n9_ n10_ n11_ n12_; clear hb hbox hg; have hnb13 := NB274_271.out; have hnc13 := NB271_274.out; have hnb14 := NB274_272.out; have hnc14 := NB272_274.out; have hnb15 := NB274_273.out; have hnc15 := NB273_274.out; obtain ⟨hcz16_0, hcz16_1, hcz16_2, hcz16_3, hcz16_4, hcz16_5, hcz16_6, hcz16_7, hcz16_8⟩ := bc9 BK274.out; obtain ⟨hfz16_0, hfz16_1, hfz16_2, hfz16_3, hfz16_4, hfz16_5, hfz16_6, hfz16_7, hfz16_8⟩ := bf9 BK274.out; obtain ⟨hcz17_0, hcz17_1, hcz17_2, hcz17_3, hcz17_4, hcz17_5, hcz17_6, hcz17_7, hcz17_8⟩ := bc9 BK271.out; obtain ⟨hfz17_0, hfz17_1, hfz17_2, hfz17_3, hfz17_4, hfz17_5, hfz17_6, hfz17_7, hfz17_8⟩ := bf9 BK271.out))
 (try simp only [Act.put, List.setIfInBounds_toArray, List.set_cons_zero, List.set_cons_succ])
 go_cut [] (fun wc => ∃ (kq : Nat) (x275003_2 : Bool) (x275004_2 : Int) (x275005_2 : ByteArray) (x275006_2 : Bool) (x275007_2 : Int) (x275008_2 : ByteArray), Aside0 (tithebarnref18_Join.j0 kq a0_0 a0_1 a0_2 a0_3 a0_4 a0_5 a0_6 a0_7 a0_8 a1_0 a1_1 a1_2 a1_3 a1_4 a1_5 a1_6 a1_7 a1_8 (wrap64 (a0_0 + a1_0)) (wrap64 (IntKind.u64.wrap ((IntKind.u64.wrap (a0_1)) + (IntKind.u64.wrap (a1_1))))) (wrap64 (a0_2 + a1_2)) x275003_2 x275004_2 x275005_2 x275006_2 x275007_2 x275008_2 = some (r1, r2, r3, r4, r5, r6, r7, r8, r9)) ∧ Aside0 (kq ≤ k) ∧ Aside0 (wc.heap[gb271]? = some (.cells #[.int .i64 a0_0, .int .i64 a0_1, .int .i64 a0_2, .bool a0_3, .int .i64 a0_4, .string a0_5, .bool a0_6, .int .i64 a0_7, .string a0_8] 47 (0, 0))) ∧ Aside0 (wc.heap[gb272]? = some (.cells #[.int .i64 a1_0, .int .i64 a1_1, .int .i64 a1_2, .bool a1_3, .int .i64 a1_4, .string a1_5, .bool a1_6, .int .i64 a1_7, .string a1_8] 47 (0, 0))) ∧ Aside0 (wc.heap[gb273]? = some (.cells #[.int .i64 0, .int .i64 0, .int .i64 0, .bool false, .int .i64 0, .string (⟨#[]⟩ : ByteArray), .bool false, .int .i64 0, .string (⟨#[]⟩ : ByteArray)] 47 (0, 0))) ∧ Aside0 (wc.heap[gb274]? = some (.cells #[.int .i64 (wrap64 (a0_0 + a1_0)), .int .i64 (wrap64 (IntKind.u64.wrap ((IntKind.u64.wrap (a0_1)) + (IntKind.u64.wrap (a1_1))))), .int .i64 (wrap64 (a0_2 + a1_2)), .bool x275003_2, .int .i64 x275004_2, .string x275005_2, .bool x275006_2, .int .i64 x275007_2, .string x275008_2] 47 (0, 0))) ∧ Aside0 (Below w.heap.size w wc))
 case first =>
  have H := HC3.out
  clear HC3
  by_cases c18 : a0_2 > 0
  ·rw [if_pos c18] at H
   have c18b0 : decide (0 < a0_2) = true := decide_eq_true c18
   clear c18
   (first | rw [c18b0] | (simp only [i64_w, i32_w]; rw [c18b0]) | skip)
   have H' := Aside0.mk H
   clear H
   have hnb19 := NB271_272.out
   have hnc19 := NB272_271.out
   have hnb20 := NB271_273.out
   have hnc20 := NB273_271.out
   have hnb21 := NB271_274.out
   have hnc21 := NB274_271.out
   obtain ⟨hcz22_0, hcz22_1, hcz22_2, hcz22_3, hcz22_4, hcz22_5, hcz22_6, hcz22_7, hcz22_8⟩ := bc9 BK271.out
   obtain ⟨hfz22_0, hfz22_1, hfz22_2, hfz22_3, hfz22_4, hfz22_5, hfz22_6, hfz22_7, hfz22_8⟩ := bf9 BK271.out
   have hnb23 := NB274_272.out
   have hnc23 := NB272_274.out
   have hnb24 := NB274_273.out
   have hnc24 := NB273_274.out
   obtain ⟨hcz25_0, hcz25_1, hcz25_2, hcz25_3, hcz25_4, hcz25_5, hcz25_6, hcz25_7, hcz25_8⟩ := bc9 BK274.out
   obtain ⟨hfz25_0, hfz25_1, hfz25_2, hfz25_3, hfz25_4, hfz25_5, hfz25_6, hfz25_7, hfz25_8⟩ := bf9 BK274.out
   go_wp2
   go_meet
   case rel => exact ⟨_, (a0_3), (a0_4), (a0_5), (a0_6), (a0_7), (a0_8), H', ⟨by first | omega | exact Nat.le_refl _⟩, ⟨by (iterate 15 (refine blk_far ?_ NB271_274.out _)); (with_reducible repeat (first | refine blk_drewN ?_ _ | refine blk_drew ?_ | refine blk_alloc ?_ _)); exact BK271.out⟩, ⟨by (iterate 15 (refine blk_far ?_ NB272_274.out _)); (with_reducible repeat (first | refine blk_drewN ?_ _ | refine blk_drew ?_ | refine blk_alloc ?_ _)); exact BK272.out⟩, ⟨by (iterate 15 (refine blk_far ?_ NB273_274.out _)); (with_reducible repeat (first | refine blk_drewN ?_ _ | refine blk_drew ?_ | refine blk_alloc ?_ _)); exact BK273.out⟩, ⟨by refine blk_put (cs := #[.int .i64 (wrap64 (a0_0 + a1_0)), .int .i64 (wrap64 (IntKind.u64.wrap ((IntKind.u64.wrap (a0_1)) + (IntKind.u64.wrap (a1_1))))), .int .i64 (wrap64 (a0_2 + a1_2)), .bool a0_3, .int .i64 a0_4, .string a0_5, .bool a0_6, .int .i64 a0_7, .string (⟨#[]⟩ : ByteArray)]) ?_ 8 _ rfl; refine blk_put (cs := #[.int .i64 (wrap64 (a0_0 + a1_0)), .int .i64 (wrap64 (IntKind.u64.wrap ((IntKind.u64.wrap (a0_1)) + (IntKind.u64.wrap (a1_1))))), .int .i64 (wrap64 (a0_2 + a1_2)), .bool a0_3, .int .i64 a0_4, .string a0_5, .bool a0_6, .int .i64 0, .string (⟨#[]⟩ : ByteArray)]) ?_ 7 _ rfl; refine blk_put (cs := #[.int .i64 (wrap64 (a0_0 + a1_0)), .int .i64 (wrap64 (IntKind.u64.wrap ((IntKind.u64.wrap (a0_1)) + (IntKind.u64.wrap (a1_1))))), .int .i64 (wrap64 (a0_2 + a1_2)), .bool a0_3, .int .i64 a0_4, .string a0_5, .bool false, .int .i64 0, .string (⟨#[]⟩ : ByteArray)]) ?_ 6 _ rfl; refine blk_put (cs := #[.int .i64 (wrap64 (a0_0 + a1_0)), .int .i64 (wrap64 (IntKind.u64.wrap ((IntKind.u64.wrap (a0_1)) + (IntKind.u64.wrap (a1_1))))), .int .i64 (wrap64 (a0_2 + a1_2)), .bool a0_3, .int .i64 a0_4, .string (⟨#[]⟩ : ByteArray), .bool false, .int .i64 0, .string (⟨#[]⟩ : ByteArray)]) ?_ 5 _ rfl; refine blk_put (cs := #[.int .i64 (wrap64 (a0_0 + a1_0)), .int .i64 (wrap64 (IntKind.u64.wrap ((IntKind.u64.wrap (a0_1)) + (IntKind.u64.wrap (a1_1))))), .int .i64 (wrap64 (a0_2 + a1_2)), .bool a0_3, .int .i64 0, .string (⟨#[]⟩ : ByteArray), .bool false, .int .i64 0, .string (⟨#[]⟩ : ByteArray)]) ?_ 4 _ rfl; refine blk_put (cs := #[.int .i64 (wrap64 (a0_0 + a1_0)), .int .i64 (wrap64 (IntKind.u64.wrap ((IntKind.u64.wrap (a0_1)) + (IntKind.u64.wrap (a1_1))))), .int .i64 (wrap64 (a0_2 + a1_2)), .bool false, .int .i64 0, .string (⟨#[]⟩ : ByteArray), .bool false, .int .i64 0, .string (⟨#[]⟩ : ByteArray)]) ?_ 3 _ rfl; refine blk_put (cs := #[.int .i64 (wrap64 (a0_0 + a1_0)), .int .i64 (wrap64 (IntKind.u64.wrap ((IntKind.u64.wrap (a0_1)) + (IntKind.u64.wrap (a1_1))))), .int .i64 (wrap64 (a0_2 + a1_2)), .bool false, .int .i64 0, .string (⟨#[]⟩ : ByteArray), .bool false, .int .i64 0, .string (⟨#[]⟩ : ByteArray)]) ?_ 8 _ rfl; refine blk_put (cs := #[.int .i64 (wrap64 (a0_0 + a1_0)), .int .i64 (wrap64 (IntKind.u64.wrap ((IntKind.u64.wrap (a0_1)) + (IntKind.u64.wrap (a1_1))))), .int .i64 (wrap64 (a0_2 + a1_2)), .bool false, .int .i64 0, .string (⟨#[]⟩ : ByteArray), .bool false, .int .i64 0, .string (⟨#[]⟩ : ByteArray)]) ?_ 7 _ rfl; refine blk_put (cs := #[.int .i64 (wrap64 (a0_0 + a1_0)), .int .i64 (wrap64 (IntKind.u64.wrap ((IntKind.u64.wrap (a0_1)) + (IntKind.u64.wrap (a1_1))))), .int .i64 (wrap64 (a0_2 + a1_2)), .bool false, .int .i64 0, .string (⟨#[]⟩ : ByteArray), .bool false, .int .i64 0, .string (⟨#[]⟩ : ByteArray)]) ?_ 6 _ rfl; refine blk_put (cs := #[.int .i64 (wrap64 (a0_0 + a1_0)), .int .i64 (wrap64 (IntKind.u64.wrap ((IntKind.u64.wrap (a0_1)) + (IntKind.u64.wrap (a1_1))))), .int .i64 (wrap64 (a0_2 + a1_2)), .bool false, .int .i64 0, .string (⟨#[]⟩ : ByteArray), .bool false, .int .i64 0, .string (⟨#[]⟩ : ByteArray)]) ?_ 5 _ rfl; refine blk_put (cs := #[.int .i64 (wrap64 (a0_0 + a1_0)), .int .i64 (wrap64 (IntKind.u64.wrap ((IntKind.u64.wrap (a0_1)) + (IntKind.u64.wrap (a1_1))))), .int .i64 (wrap64 (a0_2 + a1_2)), .bool false, .int .i64 0, .string (⟨#[]⟩ : ByteArray), .bool false, .int .i64 0, .string (⟨#[]⟩ : ByteArray)]) ?_ 4 _ rfl; refine blk_put (cs := #[.int .i64 (wrap64 (a0_0 + a1_0)), .int .i64 (wrap64 (IntKind.u64.wrap ((IntKind.u64.wrap (a0_1)) + (IntKind.u64.wrap (a1_1))))), .int .i64 (wrap64 (a0_2 + a1_2)), .bool false, .int .i64 0, .string (⟨#[]⟩ : ByteArray), .bool false, .int .i64 0, .string (⟨#[]⟩ : ByteArray)]) ?_ 3 _ rfl; refine blk_put (cs := #[.int .i64 (wrap64 (a0_0 + a1_0)), .int .i64 (wrap64 (IntKind.u64.wrap ((IntKind.u64.wrap (a0_1)) + (IntKind.u64.wrap (a1_1))))), .int .i64 0, .bool false, .int .i64 0, .string (⟨#[]⟩ : ByteArray), .bool false, .int .i64 0, .string (⟨#[]⟩ : ByteArray)]) ?_ 2 _ rfl; refine blk_put (cs := #[.int .i64 (wrap64 (a0_0 + a1_0)), .int .i64 0, .int .i64 0, .bool false, .int .i64 0, .string (⟨#[]⟩ : ByteArray), .bool false, .int .i64 0, .string (⟨#[]⟩ : ByteArray)]) ?_ 1 _ rfl; refine blk_put (cs := #[.int .i64 0, .int .i64 0, .int .i64 0, .bool false, .int .i64 0, .string (⟨#[]⟩ : ByteArray), .bool false, .int .i64 0, .string (⟨#[]⟩ : ByteArray)]) ?_ 0 _ rfl; (with_reducible repeat (first | refine blk_drewN ?_ _ | refine blk_drew ?_ | refine blk_alloc ?_ _)); exact BK274.out⟩, ⟨by repeat (first | (with_reducible first | exact HB.out | apply below_alloc | apply pw_below_drewN | apply below_drew1 | refine below_set ?_ GE271.out | refine below_set ?_ GE272.out | refine below_set ?_ GE273.out | refine below_set ?_ GE274.out) | exact HB.out)⟩⟩
  ·rw [if_neg c18] at H
   have c18b0 : decide (0 < a0_2) = false := decide_eq_false c18
   clear c18
   (first | rw [c18b0] | (simp only [i64_w, i32_w]; rw [c18b0]) | skip)
   have H' := Aside0.mk H
   clear H
   go_wp2
   go_meet
   case rel => exact ⟨_, (false), (0), ((⟨#[]⟩ : ByteArray)), (false), (0), ((⟨#[]⟩ : ByteArray)), H', ⟨by first | omega | exact Nat.le_refl _⟩, ⟨by (iterate 9 (refine blk_far ?_ NB271_274.out _)); (with_reducible repeat (first | refine blk_drewN ?_ _ | refine blk_drew ?_ | refine blk_alloc ?_ _)); exact BK271.out⟩, ⟨by (iterate 9 (refine blk_far ?_ NB272_274.out _)); (with_reducible repeat (first | refine blk_drewN ?_ _ | refine blk_drew ?_ | refine blk_alloc ?_ _)); exact BK272.out⟩, ⟨by (iterate 9 (refine blk_far ?_ NB273_274.out _)); (with_reducible repeat (first | refine blk_drewN ?_ _ | refine blk_drew ?_ | refine blk_alloc ?_ _)); exact BK273.out⟩, ⟨by refine blk_put (cs := #[.int .i64 (wrap64 (a0_0 + a1_0)), .int .i64 (wrap64 (IntKind.u64.wrap ((IntKind.u64.wrap (a0_1)) + (IntKind.u64.wrap (a1_1))))), .int .i64 (wrap64 (a0_2 + a1_2)), .bool false, .int .i64 0, .string (⟨#[]⟩ : ByteArray), .bool false, .int .i64 0, .string (⟨#[]⟩ : ByteArray)]) ?_ 8 _ rfl; refine blk_put (cs := #[.int .i64 (wrap64 (a0_0 + a1_0)), .int .i64 (wrap64 (IntKind.u64.wrap ((IntKind.u64.wrap (a0_1)) + (IntKind.u64.wrap (a1_1))))), .int .i64 (wrap64 (a0_2 + a1_2)), .bool false, .int .i64 0, .string (⟨#[]⟩ : ByteArray), .bool false, .int .i64 0, .string (⟨#[]⟩ : ByteArray)]) ?_ 7 _ rfl; refine blk_put (cs := #[.int .i64 (wrap64 (a0_0 + a1_0)), .int .i64 (wrap64 (IntKind.u64.wrap ((IntKind.u64.wrap (a0_1)) + (IntKind.u64.wrap (a1_1))))), .int .i64 (wrap64 (a0_2 + a1_2)), .bool false, .int .i64 0, .string (⟨#[]⟩ : ByteArray), .bool false, .int .i64 0, .string (⟨#[]⟩ : ByteArray)]) ?_ 6 _ rfl; refine blk_put (cs := #[.int .i64 (wrap64 (a0_0 + a1_0)), .int .i64 (wrap64 (IntKind.u64.wrap ((IntKind.u64.wrap (a0_1)) + (IntKind.u64.wrap (a1_1))))), .int .i64 (wrap64 (a0_2 + a1_2)), .bool false, .int .i64 0, .string (⟨#[]⟩ : ByteArray), .bool false, .int .i64 0, .string (⟨#[]⟩ : ByteArray)]) ?_ 5 _ rfl; refine blk_put (cs := #[.int .i64 (wrap64 (a0_0 + a1_0)), .int .i64 (wrap64 (IntKind.u64.wrap ((IntKind.u64.wrap (a0_1)) + (IntKind.u64.wrap (a1_1))))), .int .i64 (wrap64 (a0_2 + a1_2)), .bool false, .int .i64 0, .string (⟨#[]⟩ : ByteArray), .bool false, .int .i64 0, .string (⟨#[]⟩ : ByteArray)]) ?_ 4 _ rfl; refine blk_put (cs := #[.int .i64 (wrap64 (a0_0 + a1_0)), .int .i64 (wrap64 (IntKind.u64.wrap ((IntKind.u64.wrap (a0_1)) + (IntKind.u64.wrap (a1_1))))), .int .i64 (wrap64 (a0_2 + a1_2)), .bool false, .int .i64 0, .string (⟨#[]⟩ : ByteArray), .bool false, .int .i64 0, .string (⟨#[]⟩ : ByteArray)]) ?_ 3 _ rfl; refine blk_put (cs := #[.int .i64 (wrap64 (a0_0 + a1_0)), .int .i64 (wrap64 (IntKind.u64.wrap ((IntKind.u64.wrap (a0_1)) + (IntKind.u64.wrap (a1_1))))), .int .i64 0, .bool false, .int .i64 0, .string (⟨#[]⟩ : ByteArray), .bool false, .int .i64 0, .string (⟨#[]⟩ : ByteArray)]) ?_ 2 _ rfl; refine blk_put (cs := #[.int .i64 (wrap64 (a0_0 + a1_0)), .int .i64 0, .int .i64 0, .bool false, .int .i64 0, .string (⟨#[]⟩ : ByteArray), .bool false, .int .i64 0, .string (⟨#[]⟩ : ByteArray)]) ?_ 1 _ rfl; refine blk_put (cs := #[.int .i64 0, .int .i64 0, .int .i64 0, .bool false, .int .i64 0, .string (⟨#[]⟩ : ByteArray), .bool false, .int .i64 0, .string (⟨#[]⟩ : ByteArray)]) ?_ 0 _ rfl; (with_reducible repeat (first | refine blk_drewN ?_ _ | refine blk_drew ?_ | refine blk_alloc ?_ _)); exact BK274.out⟩, ⟨by repeat (first | (with_reducible first | exact HB.out | apply below_alloc | apply pw_below_drewN | apply below_drew1 | refine below_set ?_ GE271.out | refine below_set ?_ GE272.out | refine below_set ?_ GE273.out | refine below_set ?_ GE274.out) | exact HB.out)⟩⟩
 case rest =>
  clear HC3
  try clear c1
  try clear c2
  try clear p2
  try clear c6
  try clear p6
  try clear c7
  try clear c8
  try clear c10
  try clear c13
  try clear c14
  try clear c15
  try clear c18
  try clear c18b0
  try clear c19
  try clear c20
  try clear c21
  try clear c23
  try clear c24
  try clear hcz11_0 hcz11_1 hcz11_2 hcz11_3 hcz11_4 hcz11_5 hcz11_6 hcz11_7 hcz11_8
  try clear hcz16_0 hcz16_1 hcz16_2 hcz16_3 hcz16_4 hcz16_5 hcz16_6 hcz16_7 hcz16_8
  try clear hcz17_0 hcz17_1 hcz17_2 hcz17_3 hcz17_4 hcz17_5 hcz17_6 hcz17_7 hcz17_8
  try clear hcz22_0 hcz22_1 hcz22_2 hcz22_3 hcz22_4 hcz22_5 hcz22_6 hcz22_7 hcz22_8
  try clear hcz25_0 hcz25_1 hcz25_2 hcz25_3 hcz25_4 hcz25_5 hcz25_6 hcz25_7 hcz25_8
  try clear hcz9_0 hcz9_1 hcz9_2 hcz9_3 hcz9_4 hcz9_5 hcz9_6 hcz9_7 hcz9_8
  try clear hfz11_0 hfz11_1 hfz11_2 hfz11_3 hfz11_4 hfz11_5 hfz11_6 hfz11_7 hfz11_8
  try clear hfz16_0 hfz16_1 hfz16_2 hfz16_3 hfz16_4 hfz16_5 hfz16_6 hfz16_7 hfz16_8
  try clear hfz17_0 hfz17_1 hfz17_2 hfz17_3 hfz17_4 hfz17_5 hfz17_6 hfz17_7 hfz17_8
  try clear hfz22_0 hfz22_1 hfz22_2 hfz22_3 hfz22_4 hfz22_5 hfz22_6 hfz22_7 hfz22_8
  try clear hfz25_0 hfz25_1 hfz25_2 hfz25_3 hfz25_4 hfz25_5 hfz25_6 hfz25_7 hfz25_8
  try clear hfz9_0 hfz9_1 hfz9_2 hfz9_3 hfz9_4 hfz9_5 hfz9_6 hfz9_7 hfz9_8
  obtain ⟨kq, x275003_2, x275004_2, x275005_2, x275006_2, x275007_2, x275008_2, HA, HJ2, BK271, BK272, BK273, BK274, HB⟩ := hcut
  cases kq with
  | zero => exact absurd HA.out (by simp [tithebarnref18_Join.j0])
  | succ kj2 =>
   have H := HA.out
   clear HA
   simp only [tithebarnref18_Join.j0] at H
   have HC26 := Aside0.mk H
   clear H
   go_upto_region 5 with (fail)
   go_cut [48] (fun v48 wc => ∃ (kq : Nat) (x48_25 : Bool), v48 = .bool x48_25 ∧ Aside0 (tithebarnref18_Join.j1 kq x48_25 a0_0 a0_1 a0_2 a0_3 a0_4 a0_5 a0_6 a0_7 a0_8 a1_0 a1_1 a1_2 a1_3 a1_4 a1_5 a1_6 a1_7 a1_8 (wrap64 (a0_0 + a1_0)) (wrap64 (IntKind.u64.wrap ((IntKind.u64.wrap (a0_1)) + (IntKind.u64.wrap (a1_1))))) (wrap64 (a0_2 + a1_2)) x275003_2 x275004_2 x275005_2 x275006_2 x275007_2 x275008_2 = some (r1, r2, r3, r4, r5, r6, r7, r8, r9)) ∧ Aside0 (kq ≤ kj2) ∧ Aside0 (wc.heap[gb271]? = some (.cells #[.int .i64 a0_0, .int .i64 a0_1, .int .i64 a0_2, .bool a0_3, .int .i64 a0_4, .string a0_5, .bool a0_6, .int .i64 a0_7, .string a0_8] 47 (0, 0))) ∧ Aside0 (wc.heap[gb272]? = some (.cells #[.int .i64 a1_0, .int .i64 a1_1, .int .i64 a1_2, .bool a1_3, .int .i64 a1_4, .string a1_5, .bool a1_6, .int .i64 a1_7, .string a1_8] 47 (0, 0))) ∧ Aside0 (wc.heap[gb273]? = some (.cells #[.int .i64 0, .int .i64 0, .int .i64 0, .bool false, .int .i64 0, .string (⟨#[]⟩ : ByteArray), .bool false, .int .i64 0, .string (⟨#[]⟩ : ByteArray)] 47 (0, 0))) ∧ Aside0 (wc.heap[gb274]? = some (.cells #[.int .i64 (wrap64 (a0_0 + a1_0)), .int .i64 (wrap64 (IntKind.u64.wrap ((IntKind.u64.wrap (a0_1)) + (IntKind.u64.wrap (a1_1))))), .int .i64 (wrap64 (a0_2 + a1_2)), .bool x275003_2, .int .i64 x275004_2, .string x275005_2, .bool x275006_2, .int .i64 x275007_2, .string x275008_2] 47 (0, 0))) ∧ Aside0 (Below w.heap.size w wc))
   case first =>
    have H := HC26.out
    clear HC26
    by_cases c27 : a1_2 > 0
    ·rw [if_pos c27] at H
     have c27b0 : decide (0 < a1_2) = true := decide_eq_true c27
     clear c27
     (first | rw [c27b0] | (simp only [i64_w, i32_w]; rw [c27b0]) | skip)
     by_cases c28 : a0_2 ≤ 0
     ·rw [if_pos c28] at H
      have c28b0 : decide (a0_2 ≤ 0) = true := decide_eq_true c28
      clear c28
      have H' := Aside0.mk H
      clear H
      have hnb29 := NB272_271.out
      have hnc29 := NB271_272.out
      have hnb30 := NB272_273.out
      have hnc30 := NB273_272.out
      have hnb31 := NB272_274.out
      have hnc31 := NB274_272.out
      obtain ⟨hcz32_0, hcz32_1, hcz32_2, hcz32_3, hcz32_4, hcz32_5, hcz32_6, hcz32_7, hcz32_8⟩ := bc9 BK272.out
      obtain ⟨hfz32_0, hfz32_1, hfz32_2, hfz32_3, hfz32_4, hfz32_5, hfz32_6, hfz32_7, hfz32_8⟩ := bf9 BK272.out
      have hnb33 := NB271_273.out
      have hnc33 := NB273_271.out
      have hnb34 := NB271_274.out
      have hnc34 := NB274_271.out
      obtain ⟨hcz35_0, hcz35_1, hcz35_2, hcz35_3, hcz35_4, hcz35_5, hcz35_6, hcz35_7, hcz35_8⟩ := bc9 BK271.out
      obtain ⟨hfz35_0, hfz35_1, hfz35_2, hfz35_3, hfz35_4, hfz35_5, hfz35_6, hfz35_7, hfz35_8⟩ := bf9 BK271.out
      go_wp2
      go_meet
      case rel => exact ⟨_, (true), (by first | rfl | (simp; done) | (simp [*]; done)), H', ⟨by have := HJ2.out; first | omega | exact Nat.le_refl _⟩, ⟨by (with_reducible repeat (first | refine blk_drewN ?_ _ | refine blk_drew ?_ | refine blk_alloc ?_ _)); exact BK271.out⟩, ⟨by (with_reducible repeat (first | refine blk_drewN ?_ _ | refine blk_drew ?_ | refine blk_alloc ?_ _)); exact BK272.out⟩, ⟨by (with_reducible repeat (first | refine blk_drewN ?_ _ | refine blk_drew ?_ | refine blk_alloc ?_ _)); exact BK273.out⟩, ⟨by (with_reducible repeat (first | refine blk_drewN ?_ _ | refine blk_drew ?_ | refine blk_alloc ?_ _)); exact BK274.out⟩, ⟨by repeat (first | (with_reducible first | exact HB.out | apply below_alloc | apply pw_below_drewN | apply below_drew1 | refine below_set ?_ GE271.out | refine below_set ?_ GE272.out | refine below_set ?_ GE273.out | refine below_set ?_ GE274.out) | exact HB.out)⟩⟩
     ·rw [if_neg c28] at H
      have c28b0 : decide (a0_2 ≤ 0) = false := decide_eq_false c28
      clear c28
      replace H := Option.bind_eq_some_iff.mp H
      obtain ⟨t275, A360, H⟩ := H
      replace H : (tithebarnref18_Join.j1 kj2 t275 a0_0 a0_1 a0_2 a0_3 a0_4 a0_5 a0_6 a0_7 a0_8 a1_0 a1_1 a1_2 a1_3 a1_4 a1_5 a1_6 a1_7 a1_8 (wrap64 (a0_0 + a1_0)) (wrap64 (IntKind.u64.wrap ((IntKind.u64.wrap (a0_1)) + (IntKind.u64.wrap (a1_1))))) (wrap64 (a0_2 + a1_2)) x275003_2 x275004_2 x275005_2 x275006_2 x275007_2 x275008_2) = some (r1, r2, r3, r4, r5, r6, r7, r8, r9) := H
      have A36 := Aside0.mk A360
      clear A360
      have H' := Aside0.mk H
      clear H
      have hnb37 := NB272_271.out
      have hnc37 := NB271_272.out
      have hnb38 := NB272_273.out
      have hnc38 := NB273_272.out
      have hnb39 := NB272_274.out
      have hnc39 := NB274_272.out
      obtain ⟨hcz40_0, hcz40_1, hcz40_2, hcz40_3, hcz40_4, hcz40_5, hcz40_6, hcz40_7, hcz40_8⟩ := bc9 BK272.out
      obtain ⟨hfz40_0, hfz40_1, hfz40_2, hfz40_3, hfz40_4, hfz40_5, hfz40_6, hfz40_7, hfz40_8⟩ := bf9 BK272.out
      have hnb41 := NB271_273.out
      have hnc41 := NB273_271.out
      have hnb42 := NB271_274.out
      have hnc42 := NB274_271.out
      obtain ⟨hcz43_0, hcz43_1, hcz43_2, hcz43_3, hcz43_4, hcz43_5, hcz43_6, hcz43_7, hcz43_8⟩ := bc9 BK271.out
      obtain ⟨hfz43_0, hfz43_1, hfz43_2, hfz43_3, hfz43_4, hfz43_5, hfz43_6, hfz43_7, hfz43_8⟩ := bf9 BK271.out
      have hnb44 := NB274_273.out
      have hnc44 := NB273_274.out
      obtain ⟨hcz45_0, hcz45_1, hcz45_2, hcz45_3, hcz45_4, hcz45_5, hcz45_6, hcz45_7, hcz45_8⟩ := bc9 BK274.out
      obtain ⟨hfz45_0, hfz45_1, hfz45_2, hfz45_3, hfz45_4, hfz45_5, hfz45_6, hfz45_7, hfz45_8⟩ := bf9 BK274.out
      go_wp2_with (first | (go_at_call 50; (with_reducible refine (tithebarnref02_Ahead_c.calls a1_3 a1_4 a1_5 x275003_2 x275004_2 x275005_2 t275 _ A36.out).mono ?_); rintro e w46 ⟨rfl, hb⟩; have n0_ := Aside0.mk (blk_below (g := gb271) (o := .cells #[.int .i64 a0_0, .int .i64 a0_1, .int .i64 a0_2, .bool a0_3, .int .i64 a0_4, .string a0_5, .bool a0_6, .int .i64 a0_7, .string a0_8] 47 (0, 0)) (by (with_reducible repeat (first | refine blk_drewN ?_ _ | refine blk_drew ?_ | refine blk_alloc ?_ _)); exact BK271.out) hb); have n1_ := Aside0.mk (blk_below (g := gb272) (o := .cells #[.int .i64 a1_0, .int .i64 a1_1, .int .i64 a1_2, .bool a1_3, .int .i64 a1_4, .string a1_5, .bool a1_6, .int .i64 a1_7, .string a1_8] 47 (0, 0)) (by (with_reducible repeat (first | refine blk_drewN ?_ _ | refine blk_drew ?_ | refine blk_alloc ?_ _)); exact BK272.out) hb); have n2_ := Aside0.mk (blk_below (g := gb273) (o := .cells #[.int .i64 0, .int .i64 0, .int .i64 0, .bool false, .int .i64 0, .string (⟨#[]⟩ : ByteArray), .bool false, .int .i64 0, .string (⟨#[]⟩ : ByteArray)] 47 (0, 0)) (by (with_reducible repeat (first | refine blk_drewN ?_ _ | refine blk_drew ?_ | refine blk_alloc ?_ _)); exact BK273.out) hb); have n3_ := Aside0.mk (blk_below (g := gb274) (o := .cells #[.int .i64 (wrap64 (a0_0 + a1_0)), .int .i64 (wrap64 (IntKind.u64.wrap ((IntKind.u64.wrap (a0_1)) + (IntKind.u64.wrap (a1_1))))), .int .i64 (wrap64 (a0_2 + a1_2)), .bool x275003_2, .int .i64 x275004_2, .string x275005_2, .bool x275006_2, .int .i64 x275007_2, .string x275008_2] 47 (0, 0)) (by (with_reducible repeat (first | refine blk_drewN ?_ _ | refine blk_drew ?_ | refine blk_alloc ?_ _)); exact BK274.out) hb); have n4_ := Aside0.mk (below_step (by with_reducible repeat first | exact HB.out | apply below_alloc | apply pw_below_drewN | apply below_drew1 | refine below_set ?_ GE271.out | refine below_set ?_ GE272.out | refine below_set ?_ GE273.out | refine below_set ?_ GE274.out) hb); clear BK271; clear BK272; clear BK273; clear BK274; clear HB; have BK271 := n0_; have BK272 := n1_; have BK273 := n2_; have BK274 := n3_; have HB := n4_; clear n0_ n1_ n2_ n3_ n4_; (try clear hb); (try clear hb2); (try clear hk); (try clear hi)))
      go_meet
      case rel => exact ⟨_, (t275), (by first | rfl | (simp; done) | (simp [*]; done)), H', ⟨by have := HJ2.out; first | omega | exact Nat.le_refl _⟩, ⟨by (with_reducible repeat (first | refine blk_drewN ?_ _ | refine blk_drew ?_ | refine blk_alloc ?_ _)); exact BK271.out⟩, ⟨by (with_reducible repeat (first | refine blk_drewN ?_ _ | refine blk_drew ?_ | refine blk_alloc ?_ _)); exact BK272.out⟩, ⟨by (with_reducible repeat (first | refine blk_drewN ?_ _ | refine blk_drew ?_ | refine blk_alloc ?_ _)); exact BK273.out⟩, ⟨by (with_reducible repeat (first | refine blk_drewN ?_ _ | refine blk_drew ?_ | refine blk_alloc ?_ _)); exact BK274.out⟩, ⟨by repeat (first | (with_reducible first | exact HB.out | apply below_alloc | apply pw_below_drewN | apply below_drew1 | refine below_set ?_ GE271.out | refine below_set ?_ GE272.out | refine below_set ?_ GE273.out | refine below_set ?_ GE274.out) | exact HB.out)⟩⟩
    ·rw [if_neg c27] at H
     have c27b0 : decide (0 < a1_2) = false := decide_eq_false c27
     clear c27
     (first | rw [c27b0] | (simp only [i64_w, i32_w]; rw [c27b0]) | skip)
     have H' := Aside0.mk H
     clear H
     have hnb47 := NB272_271.out
     have hnc47 := NB271_272.out
     have hnb48 := NB272_273.out
     have hnc48 := NB273_272.out
     have hnb49 := NB272_274.out
     have hnc49 := NB274_272.out
     obtain ⟨hcz50_0, hcz50_1, hcz50_2, hcz50_3, hcz50_4, hcz50_5, hcz50_6, hcz50_7, hcz50_8⟩ := bc9 BK272.out
     obtain ⟨hfz50_0, hfz50_1, hfz50_2, hfz50_3, hfz50_4, hfz50_5, hfz50_6, hfz50_7, hfz50_8⟩ := bf9 BK272.out
     go_wp2
     go_meet
     case rel => exact ⟨_, (false), (by first | rfl | (simp; done) | (simp [*]; done)), H', ⟨by have := HJ2.out; first | omega | exact Nat.le_refl _⟩, ⟨by (with_reducible repeat (first | refine blk_drewN ?_ _ | refine blk_drew ?_ | refine blk_alloc ?_ _)); exact BK271.out⟩, ⟨by (with_reducible repeat (first | refine blk_drewN ?_ _ | refine blk_drew ?_ | refine blk_alloc ?_ _)); exact BK272.out⟩, ⟨by (with_reducible repeat (first | refine blk_drewN ?_ _ | refine blk_drew ?_ | refine blk_alloc ?_ _)); exact BK273.out⟩, ⟨by (with_reducible repeat (first | refine blk_drewN ?_ _ | refine blk_drew ?_ | refine blk_alloc ?_ _)); exact BK274.out⟩, ⟨by repeat (first | (with_reducible first | exact HB.out | apply below_alloc | apply pw_below_drewN | apply below_drew1 | refine below_set ?_ GE271.out | refine below_set ?_ GE272.out | refine below_set ?_ GE273.out | refine below_set ?_ GE274.out) | exact HB.out)⟩⟩
   case rest =>
    clear HC26
    try clear c1
    try clear c2
    try clear p2
    try clear c3
    try clear c4
    try clear c6
    try clear p6
    try clear c7
    try clear c8
    try clear c10
    try clear c13
    try clear c14
    try clear c15
    try clear c18
    try clear c18b0
    try clear c19
    try clear c20
    try clear c21
    try clear c23
    try clear c24
    try clear c27
    try clear c27b0
    try clear c28
    try clear c28b0
    try clear c29
    try clear c30
    try clear c31
    try clear c33
    try clear c34
    try clear c37
    try clear c38
    try clear c39
    try clear c41
    try clear c42
    try clear c44
    try clear c47
    try clear c48
    try clear c49
    try clear hcz11_0 hcz11_1 hcz11_2 hcz11_3 hcz11_4 hcz11_5 hcz11_6 hcz11_7 hcz11_8
    try clear hcz16_0 hcz16_1 hcz16_2 hcz16_3 hcz16_4 hcz16_5 hcz16_6 hcz16_7 hcz16_8
    try clear hcz17_0 hcz17_1 hcz17_2 hcz17_3 hcz17_4 hcz17_5 hcz17_6 hcz17_7 hcz17_8
    try clear hcz22_0 hcz22_1 hcz22_2 hcz22_3 hcz22_4 hcz22_5 hcz22_6 hcz22_7 hcz22_8
    try clear hcz25_0 hcz25_1 hcz25_2 hcz25_3 hcz25_4 hcz25_5 hcz25_6 hcz25_7 hcz25_8
    try clear hcz32_0 hcz32_1 hcz32_2 hcz32_3 hcz32_4 hcz32_5 hcz32_6 hcz32_7 hcz32_8
    try clear hcz35_0 hcz35_1 hcz35_2 hcz35_3 hcz35_4 hcz35_5 hcz35_6 hcz35_7 hcz35_8
    try clear hcz40_0 hcz40_1 hcz40_2 hcz40_3 hcz40_4 hcz40_5 hcz40_6 hcz40_7 hcz40_8
    try clear hcz43_0 hcz43_1 hcz43_2 hcz43_3 hcz43_4 hcz43_5 hcz43_6 hcz43_7 hcz43_8
    try clear hcz45_0 hcz45_1 hcz45_2 hcz45_3 hcz45_4 hcz45_5 hcz45_6 hcz45_7 hcz45_8
    try clear hcz50_0 hcz50_1 hcz50_2 hcz50_3 hcz50_4 hcz50_5 hcz50_6 hcz50_7 hcz50_8
    try clear hcz9_0 hcz9_1 hcz9_2 hcz9_3 hcz9_4 hcz9_5 hcz9_6 hcz9_7 hcz9_8
    try clear hfz11_0 hfz11_1 hfz11_2 hfz11_3 hfz11_4 hfz11_5 hfz11_6 hfz11_7 hfz11_8
    try clear hfz16_0 hfz16_1 hfz16_2 hfz16_3 hfz16_4 hfz16_5 hfz16_6 hfz16_7 hfz16_8
    try clear hfz17_0 hfz17_1 hfz17_2 hfz17_3 hfz17_4 hfz17_5 hfz17_6 hfz17_7 hfz17_8
    try clear hfz22_0 hfz22_1 hfz22_2 hfz22_3 hfz22_4 hfz22_5 hfz22_6 hfz22_7 hfz22_8
    try clear hfz25_0 hfz25_1 hfz25_2 hfz25_3 hfz25_4 hfz25_5 hfz25_6 hfz25_7 hfz25_8
    try clear hfz32_0 hfz32_1 hfz32_2 hfz32_3 hfz32_4 hfz32_5 hfz32_6 hfz32_7 hfz32_8
    try clear hfz35_0 hfz35_1 hfz35_2 hfz35_3 hfz35_4 hfz35_5 hfz35_6 hfz35_7 hfz35_8
    try clear hfz40_0 hfz40_1 hfz40_2 hfz40_3 hfz40_4 hfz40_5 hfz40_6 hfz40_7 hfz40_8
    try clear hfz43_0 hfz43_1 hfz43_2 hfz43_3 hfz43_4 hfz43_5 hfz43_6 hfz43_7 hfz43_8
    try clear hfz45_0 hfz45_1 hfz45_2 hfz45_3 hfz45_4 hfz45_5 hfz45_6 hfz45_7 hfz45_8
    try clear hfz50_0 hfz50_1 hfz50_2 hfz50_3 hfz50_4 hfz50_5 hfz50_6 hfz50_7 hfz50_8
    try clear hfz9_0 hfz9_1 hfz9_2 hfz9_3 hfz9_4 hfz9_5 hfz9_6 hfz9_7 hfz9_8
    try clear p2
    try clear p6
    obtain ⟨kq, x48_25, rfl, HA, HJ25, BK271, BK272, BK273, BK274, HB⟩ := hcut
    cases kq with
    | zero => exact absurd HA.out (by simp [tithebarnref18_Join.j1])
    | succ kj25 =>
     have H := HA.out
     clear HA
     simp only [tithebarnref18_Join.j1] at H
     have HC51 := Aside0.mk H
     clear H
     go_upto_if 48 with (fail)
     go_cut [] (fun wc => ∃ (kq : Nat) (x275003_50 : Bool) (x275004_50 : Int) (x275005_50 : ByteArray), Aside0 (tithebarnref18_Join.j2 kq a0_0 a0_1 a0_2 a0_3 a0_4 a0_5 a0_6 a0_7 a0_8 a1_0 a1_1 a1_2 a1_3 a1_4 a1_5 a1_6 a1_7 a1_8 (wrap64 (a0_0 + a1_0)) (wrap64 (IntKind.u64.wrap ((IntKind.u64.wrap (a0_1)) + (IntKind.u64.wrap (a1_1))))) (wrap64 (a0_2 + a1_2)) x275003_50 x275004_50 x275005_50 x275006_2 x275007_2 x275008_2 = some (r1, r2, r3, r4, r5, r6, r7, r8, r9)) ∧ Aside0 (kq ≤ kj25) ∧ Aside0 (wc.heap[gb271]? = some (.cells #[.int .i64 a0_0, .int .i64 a0_1, .int .i64 a0_2, .bool a0_3, .int .i64 a0_4, .string a0_5, .bool a0_6, .int .i64 a0_7, .string a0_8] 47 (0, 0))) ∧ Aside0 (wc.heap[gb272]? = some (.cells #[.int .i64 a1_0, .int .i64 a1_1, .int .i64 a1_2, .bool a1_3, .int .i64 a1_4, .string a1_5, .bool a1_6, .int .i64 a1_7, .string a1_8] 47 (0, 0))) ∧ Aside0 (wc.heap[gb273]? = some (.cells #[.int .i64 0, .int .i64 0, .int .i64 0, .bool false, .int .i64 0, .string (⟨#[]⟩ : ByteArray), .bool false, .int .i64 0, .string (⟨#[]⟩ : ByteArray)] 47 (0, 0))) ∧ Aside0 (wc.heap[gb274]? = some (.cells #[.int .i64 (wrap64 (a0_0 + a1_0)), .int .i64 (wrap64 (IntKind.u64.wrap ((IntKind.u64.wrap (a0_1)) + (IntKind.u64.wrap (a1_1))))), .int .i64 (wrap64 (a0_2 + a1_2)), .bool x275003_50, .int .i64 x275004_50, .string x275005_50, .bool x275006_2, .int .i64 x275007_2, .string x275008_2] 47 (0, 0))) ∧ Aside0 (Below w.heap.size w wc))
     case first =>
      have H := HC51.out
      clear HC51
      by_cases c52 : x48_25 = true
      ·subst c52
       have H1 : (tithebarnref18_Join.j2 kj25 a0_0 a0_1 a0_2 a0_3 a0_4 a0_5 a0_6 a0_7 a0_8 a1_0 a1_1 a1_2 a1_3 a1_4 a1_5 a1_6 a1_7 a1_8 (wrap64 (a0_0 + a1_0)) (wrap64 (IntKind.u64.wrap ((IntKind.u64.wrap (a0_1)) + (IntKind.u64.wrap (a1_1))))) (wrap64 (a0_2 + a1_2)) a1_3 a1_4 a1_5 x275006_2 x275007_2 x275008_2) = some (r1, r2, r3, r4, r5, r6, r7, r8, r9) := by rw [if_pos rfl] at H; exact H
       clear H
       have H := H1
       clear H1
       have H' := Aside0.mk H
       clear H
       have hnb53 := NB272_271.out
       have hnc53 := NB271_272.out
       have hnb54 := NB272_273.out
       have hnc54 := NB273_272.out
       have hnb55 := NB272_274.out
       have hnc55 := NB274_272.out
       obtain ⟨hcz56_0, hcz56_1, hcz56_2, hcz56_3, hcz56_4, hcz56_5, hcz56_6, hcz56_7, hcz56_8⟩ := bc9 BK272.out
       obtain ⟨hfz56_0, hfz56_1, hfz56_2, hfz56_3, hfz56_4, hfz56_5, hfz56_6, hfz56_7, hfz56_8⟩ := bf9 BK272.out
       have hnb57 := NB274_271.out
       have hnc57 := NB271_274.out
       have hnb58 := NB274_273.out
       have hnc58 := NB273_274.out
       obtain ⟨hcz59_0, hcz59_1, hcz59_2, hcz59_3, hcz59_4, hcz59_5, hcz59_6, hcz59_7, hcz59_8⟩ := bc9 BK274.out
       obtain ⟨hfz59_0, hfz59_1, hfz59_2, hfz59_3, hfz59_4, hfz59_5, hfz59_6, hfz59_7, hfz59_8⟩ := bf9 BK274.out
       go_wp2
       go_meet
       case rel => exact ⟨_, (a1_3), (a1_4), (a1_5), H', ⟨by have := HJ2.out; have := HJ25.out; first | omega | exact Nat.le_refl _⟩, ⟨by (iterate 3 (refine blk_far ?_ NB271_274.out _)); (with_reducible repeat (first | refine blk_drewN ?_ _ | refine blk_drew ?_ | refine blk_alloc ?_ _)); exact BK271.out⟩, ⟨by (iterate 3 (refine blk_far ?_ NB272_274.out _)); (with_reducible repeat (first | refine blk_drewN ?_ _ | refine blk_drew ?_ | refine blk_alloc ?_ _)); exact BK272.out⟩, ⟨by (iterate 3 (refine blk_far ?_ NB273_274.out _)); (with_reducible repeat (first | refine blk_drewN ?_ _ | refine blk_drew ?_ | refine blk_alloc ?_ _)); exact BK273.out⟩, ⟨by refine blk_put (cs := #[.int .i64 (wrap64 (a0_0 + a1_0)), .int .i64 (wrap64 (IntKind.u64.wrap ((IntKind.u64.wrap (a0_1)) + (IntKind.u64.wrap (a1_1))))), .int .i64 (wrap64 (a0_2 + a1_2)), .bool a1_3, .int .i64 a1_4, .string x275005_2, .bool x275006_2, .int .i64 x275007_2, .string x275008_2]) ?_ 5 _ rfl; refine blk_put (cs := #[.int .i64 (wrap64 (a0_0 + a1_0)), .int .i64 (wrap64 (IntKind.u64.wrap ((IntKind.u64.wrap (a0_1)) + (IntKind.u64.wrap (a1_1))))), .int .i64 (wrap64 (a0_2 + a1_2)), .bool a1_3, .int .i64 x275004_2, .string x275005_2, .bool x275006_2, .int .i64 x275007_2, .string x275008_2]) ?_ 4 _ rfl; refine blk_put (cs := #[.int .i64 (wrap64 (a0_0 + a1_0)), .int .i64 (wrap64 (IntKind.u64.wrap ((IntKind.u64.wrap (a0_1)) + (IntKind.u64.wrap (a1_1))))), .int .i64 (wrap64 (a0_2 + a1_2)), .bool x275003_2, .int .i64 x275004_2, .string x275005_2, .bool x275006_2, .int .i64 x275007_2, .string x275008_2]) ?_ 3 _ rfl; (with_reducible repeat (first | refine blk_drewN ?_ _ | refine blk_drew ?_ | refine blk_alloc ?_ _)); exact BK274.out⟩, ⟨by repeat (first | (with_reducible first | exact HB.out | apply below_alloc | apply pw_below_drewN | apply below_drew1 | refine below_set ?_ GE271.out | refine below_set ?_ GE272.out | refine below_set ?_ GE273.out | refine below_set ?_ GE274.out) | exact HB.out)⟩⟩
      ·replace c52 := Bool.eq_false_iff.mpr c52
       subst c52
       have H1 : (tithebarnref18_Join.j2 kj25 a0_0 a0_1 a0_2 a0_3 a0_4 a0_5 a0_6 a0_7 a0_8 a1_0 a1_1 a1_2 a1_3 a1_4 a1_5 a1_6 a1_7 a1_8 (wrap64 (a0_0 + a1_0)) (wrap64 (IntKind.u64.wrap ((IntKind.u64.wrap (a0_1)) + (IntKind.u64.wrap (a1_1))))) (wrap64 (a0_2 + a1_2)) x275003_2 x275004_2 x275005_2 x275006_2 x275007_2 x275008_2) = some (r1, r2, r3, r4, r5, r6, r7, r8, r9) := by rw [if_neg (show ¬ (false = true) by decide)] at H; exact H
       clear H
       have H := H1
       clear H1
       have H' := Aside0.mk H
       clear H
       go_wp2
       go_meet
       case rel => exact ⟨_, (x275003_2), (x275004_2), (x275005_2), H', ⟨by have := HJ2.out; have := HJ25.out; first | omega | exact Nat.le_refl _⟩, ⟨by (with_reducible repeat (first | refine blk_drewN ?_ _ | refine blk_drew ?_ | refine blk_alloc ?_ _)); exact BK271.out⟩, ⟨by (with_reducible repeat (first | refine blk_drewN ?_ _ | refine blk_drew ?_ | refine blk_alloc ?_ _)); exact BK272.out⟩, ⟨by (with_reducible repeat (first | refine blk_drewN ?_ _ | refine blk_drew ?_ | refine blk_alloc ?_ _)); exact BK273.out⟩, ⟨by (with_reducible repeat (first | refine blk_drewN ?_ _ | refine blk_drew ?_ | refine blk_alloc ?_ _)); exact BK274.out⟩, ⟨by repeat (first | (with_reducible first | exact HB.out | apply below_alloc | apply pw_below_drewN | apply below_drew1 | refine below_set ?_ GE271.out | refine below_set ?_ GE272.out | refine below_set ?_ GE273.out | refine below_set ?_ GE274.out) | exact HB.out)⟩⟩
     case rest =>
      clear HC51
      try clear c1
      try clear c2
      try clear p2
      try clear c3
      try clear c4
      try clear c5
      try clear c6
      try clear p6
      try clear c7
      try clear c8
      try clear c10
      try clear c13
      try clear c14
      try clear c15
      try clear c18
      try clear c18b0
      try clear c19
      try clear c20
      try clear c21
      try clear c23
      try clear c24
      try clear c27
      try clear c27b0
      try clear c28
      try clear c28b0
      try clear c29
      try clear c30
      try clear c31
      try clear c33
      try clear c34
      try clear c37
      try clear c38
      try clear c39
      try clear c41
      try clear c42
      try clear c44
      try clear c47
      try clear c48
      try clear c49
      try clear c52
      try clear c53
      try clear c54
      try clear c55
      try clear c57
      try clear c58
      try clear hcz11_0 hcz11_1 hcz11_2 hcz11_3 hcz11_4 hcz11_5 hcz11_6 hcz11_7 hcz11_8
      try clear hcz16_0 hcz16_1 hcz16_2 hcz16_3 hcz16_4 hcz16_5 hcz16_6 hcz16_7 hcz16_8
      try clear hcz17_0 hcz17_1 hcz17_2 hcz17_3 hcz17_4 hcz17_5 hcz17_6 hcz17_7 hcz17_8
      try clear hcz22_0 hcz22_1 hcz22_2 hcz22_3 hcz22_4 hcz22_5 hcz22_6 hcz22_7 hcz22_8
      try clear hcz25_0 hcz25_1 hcz25_2 hcz25_3 hcz25_4 hcz25_5 hcz25_6 hcz25_7 hcz25_8
      try clear hcz32_0 hcz32_1 hcz32_2 hcz32_3 hcz32_4 hcz32_5 hcz32_6 hcz32_7 hcz32_8
      try clear hcz35_0 hcz35_1 hcz35_2 hcz35_3 hcz35_4 hcz35_5 hcz35_6 hcz35_7 hcz35_8
      try clear hcz40_0 hcz40_1 hcz40_2 hcz40_3 hcz40_4 hcz40_5 hcz40_6 hcz40_7 hcz40_8
      try clear hcz43_0 hcz43_1 hcz43_2 hcz43_3 hcz43_4 hcz43_5 hcz43_6 hcz43_7 hcz43_8
      try clear hcz45_0 hcz45_1 hcz45_2 hcz45_3 hcz45_4 hcz45_5 hcz45_6 hcz45_7 hcz45_8
      try clear hcz50_0 hcz50_1 hcz50_2 hcz50_3 hcz50_4 hcz50_5 hcz50_6 hcz50_7 hcz50_8
      try clear hcz56_0 hcz56_1 hcz56_2 hcz56_3 hcz56_4 hcz56_5 hcz56_6 hcz56_7 hcz56_8
      try clear hcz59_0 hcz59_1 hcz59_2 hcz59_3 hcz59_4 hcz59_5 hcz59_6 hcz59_7 hcz59_8
      try clear hcz9_0 hcz9_1 hcz9_2 hcz9_3 hcz9_4 hcz9_5 hcz9_6 hcz9_7 hcz9_8
      try clear hfz11_0 hfz11_1 hfz11_2 hfz11_3 hfz11_4 hfz11_5 hfz11_6 hfz11_7 hfz11_8
      try clear hfz16_0 hfz16_1 hfz16_2 hfz16_3 hfz16_4 hfz16_5 hfz16_6 hfz16_7 hfz16_8
      try clear hfz17_0 hfz17_1 hfz17_2 hfz17_3 hfz17_4 hfz17_5 hfz17_6 hfz17_7 hfz17_8
      try clear hfz22_0 hfz22_1 hfz22_2 hfz22_3 hfz22_4 hfz22_5 hfz22_6 hfz22_7 hfz22_8
      try clear hfz25_0 hfz25_1 hfz25_2 hfz25_3 hfz25_4 hfz25_5 hfz25_6 hfz25_7 hfz25_8
      try clear hfz32_0 hfz32_1 hfz32_2 hfz32_3 hfz32_4 hfz32_5 hfz32_6 hfz32_7 hfz32_8
      try clear hfz35_0 hfz35_1 hfz35_2 hfz35_3 hfz35_4 hfz35_5 hfz35_6 hfz35_7 hfz35_8
      try clear hfz40_0 hfz40_1 hfz40_2 hfz40_3 hfz40_4 hfz40_5 hfz40_6 hfz40_7 hfz40_8
      try clear hfz43_0 hfz43_1 hfz43_2 hfz43_3 hfz43_4 hfz43_5 hfz43_6 hfz43_7 hfz43_8
      try clear hfz45_0 hfz45_1 hfz45_2 hfz45_3 hfz45_4 hfz45_5 hfz45_6 hfz45_7 hfz45_8
      try clear hfz50_0 hfz50_1 hfz50_2 hfz50_3 hfz50_4 hfz50_5 hfz50_6 hfz50_7 hfz50_8
      try clear hfz56_0 hfz56_1 hfz56_2 hfz56_3 hfz56_4 hfz56_5 hfz56_6 hfz56_7 hfz56_8
      try clear hfz59_0 hfz59_1 hfz59_2 hfz59_3 hfz59_4 hfz59_5 hfz59_6 hfz59_7 hfz59_8
      try clear hfz9_0 hfz9_1 hfz9_2 hfz9_3 hfz9_4 hfz9_5 hfz9_6 hfz9_7 hfz9_8
      try clear p2
      try clear p6
      obtain ⟨kq, x275003_50, x275004_50, x275005_50, HA, HJ50, BK271, BK272, BK273, BK274, HB⟩ := hcut
      cases kq with
      | zero => exact absurd HA.out (by simp [tithebarnref18_Join.j2])
      | succ kj50 =>
       have H := HA.out
       clear HA
       simp only [tithebarnref18_Join.j2] at H
       have HC60 := Aside0.mk H
       clear H
       go_upto_region 7 with (fail)
       go_cut [66] (fun v66 wc => ∃ (kq : Nat) (x66_59 : Bool), v66 = .bool x66_59 ∧ Aside0 (tithebarnref18_Join.j3 kq x66_59 a1_0 a1_1 a1_2 a1_3 a1_4 a1_5 a1_6 a1_7 a1_8 (wrap64 (a0_0 + a1_0)) (wrap64 (IntKind.u64.wrap ((IntKind.u64.wrap (a0_1)) + (IntKind.u64.wrap (a1_1))))) (wrap64 (a0_2 + a1_2)) x275003_50 x275004_50 x275005_50 x275006_2 x275007_2 x275008_2 = some (r1, r2, r3, r4, r5, r6, r7, r8, r9)) ∧ Aside0 (kq ≤ kj50) ∧ Aside0 (wc.heap[gb271]? = some (.cells #[.int .i64 a0_0, .int .i64 a0_1, .int .i64 a0_2, .bool a0_3, .int .i64 a0_4, .string a0_5, .bool a0_6, .int .i64 a0_7, .string a0_8] 47 (0, 0))) ∧ Aside0 (wc.heap[gb272]? = some (.cells #[.int .i64 a1_0, .int .i64 a1_1, .int .i64 a1_2, .bool a1_3, .int .i64 a1_4, .string a1_5, .bool a1_6, .int .i64 a1_7, .string a1_8] 47 (0, 0))) ∧ Aside0 (wc.heap[gb273]? = some (.cells #[.int .i64 0, .int .i64 0, .int .i64 0, .bool false, .int .i64 0, .string (⟨#[]⟩ : ByteArray), .bool false, .int .i64 0, .string (⟨#[]⟩ : ByteArray)] 47 (0, 0))) ∧ Aside0 (wc.heap[gb274]? = some (.cells #[.int .i64 (wrap64 (a0_0 + a1_0)), .int .i64 (wrap64 (IntKind.u64.wrap ((IntKind.u64.wrap (a0_1)) + (IntKind.u64.wrap (a1_1))))), .int .i64 (wrap64 (a0_2 + a1_2)), .bool x275003_50, .int .i64 x275004_50, .string x275005_50, .bool x275006_2, .int .i64 x275007_2, .string x275008_2] 47 (0, 0))) ∧ Aside0 (Below w.heap.size w wc))
       case first =>
        have H := HC60.out
        clear HC60
        by_cases c61 : a1_2 > 0
        ·rw [if_pos c61] at H
         have c61b0 : decide (0 < a1_2) = true := decide_eq_true c61
         clear c61
         (first | rw [c61b0] | (simp only [i64_w, i32_w]; rw [c61b0]) | skip)
         by_cases c62 : a0_2 ≤ 0
         ·rw [if_pos c62] at H
          have c62b0 : decide (a0_2 ≤ 0) = true := decide_eq_true c62
          clear c62
          have H' := Aside0.mk H
          clear H
          have hnb63 := NB272_271.out
          have hnc63 := NB271_272.out
          have hnb64 := NB272_273.out
          have hnc64 := NB273_272.out
          have hnb65 := NB272_274.out
          have hnc65 := NB274_272.out
          obtain ⟨hcz66_0, hcz66_1, hcz66_2, hcz66_3, hcz66_4, hcz66_5, hcz66_6, hcz66_7, hcz66_8⟩ := bc9 BK272.out
          obtain ⟨hfz66_0, hfz66_1, hfz66_2, hfz66_3, hfz66_4, hfz66_5, hfz66_6, hfz66_7, hfz66_8⟩ := bf9 BK272.out
          have hnb67 := NB271_273.out
          have hnc67 := NB273_271.out
          have hnb68 := NB271_274.out
          have hnc68 := NB274_271.out
          obtain ⟨hcz69_0, hcz69_1, hcz69_2, hcz69_3, hcz69_4, hcz69_5, hcz69_6, hcz69_7, hcz69_8⟩ := bc9 BK271.out
          obtain ⟨hfz69_0, hfz69_1, hfz69_2, hfz69_3, hfz69_4, hfz69_5, hfz69_6, hfz69_7, hfz69_8⟩ := bf9 BK271.out
          go_wp2
          go_meet
          case rel => exact ⟨_, (true), (by first | rfl | (simp; done) | (simp [*]; done)), H', ⟨by have := HJ2.out; have := HJ25.out; have := HJ50.out; first | omega | exact Nat.le_refl _⟩, ⟨by (with_reducible repeat (first | refine blk_drewN ?_ _ | refine blk_drew ?_ | refine blk_alloc ?_ _)); exact BK271.out⟩, ⟨by (with_reducible repeat (first | refine blk_drewN ?_ _ | refine blk_drew ?_ | refine blk_alloc ?_ _)); exact BK272.out⟩, ⟨by (with_reducible repeat (first | refine blk_drewN ?_ _ | refine blk_drew ?_ | refine blk_alloc ?_ _)); exact BK273.out⟩, ⟨by (with_reducible repeat (first | refine blk_drewN ?_ _ | refine blk_drew ?_ | refine blk_alloc ?_ _)); exact BK274.out⟩, ⟨by repeat (first | (with_reducible first | exact HB.out | apply below_alloc | apply pw_below_drewN | apply below_drew1 | refine below_set ?_ GE271.out | refine below_set ?_ GE272.out | refine below_set ?_ GE273.out | refine below_set ?_ GE274.out) | exact HB.out)⟩⟩
         ·rw [if_neg c62] at H
          have c62b0 : decide (a0_2 ≤ 0) = false := decide_eq_false c62
          clear c62
          replace H := Option.bind_eq_some_iff.mp H
          obtain ⟨t276, A700, H⟩ := H
          replace H : (tithebarnref18_Join.j3 kj50 t276 a1_0 a1_1 a1_2 a1_3 a1_4 a1_5 a1_6 a1_7 a1_8 (wrap64 (a0_0 + a1_0)) (wrap64 (IntKind.u64.wrap ((IntKind.u64.wrap (a0_1)) + (IntKind.u64.wrap (a1_1))))) (wrap64 (a0_2 + a1_2)) x275003_50 x275004_50 x275005_50 x275006_2 x275007_2 x275008_2) = some (r1, r2, r3, r4, r5, r6, r7, r8, r9) := H
          have A70 := Aside0.mk A700
          clear A700
          have H' := Aside0.mk H
          clear H
          have hnb71 := NB272_271.out
          have hnc71 := NB271_272.out
          have hnb72 := NB272_273.out
          have hnc72 := NB273_272.out
          have hnb73 := NB272_274.out
          have hnc73 := NB274_272.out
          obtain ⟨hcz74_0, hcz74_1, hcz74_2, hcz74_3, hcz74_4, hcz74_5, hcz74_6, hcz74_7, hcz74_8⟩ := bc9 BK272.out
          obtain ⟨hfz74_0, hfz74_1, hfz74_2, hfz74_3, hfz74_4, hfz74_5, hfz74_6, hfz74_7, hfz74_8⟩ := bf9 BK272.out
          have hnb75 := NB271_273.out
          have hnc75 := NB273_271.out
          have hnb76 := NB271_274.out
          have hnc76 := NB274_271.out
          obtain ⟨hcz77_0, hcz77_1, hcz77_2, hcz77_3, hcz77_4, hcz77_5, hcz77_6, hcz77_7, hcz77_8⟩ := bc9 BK271.out
          obtain ⟨hfz77_0, hfz77_1, hfz77_2, hfz77_3, hfz77_4, hfz77_5, hfz77_6, hfz77_7, hfz77_8⟩ := bf9 BK271.out
          have hnb78 := NB274_273.out
          have hnc78 := NB273_274.out
          obtain ⟨hcz79_0, hcz79_1, hcz79_2, hcz79_3, hcz79_4, hcz79_5, hcz79_6, hcz79_7, hcz79_8⟩ := bc9 BK274.out
          obtain ⟨hfz79_0, hfz79_1, hfz79_2, hfz79_3, hfz79_4, hfz79_5, hfz79_6, hfz79_7, hfz79_8⟩ := bf9 BK274.out
          go_wp2_with (first | (go_at_call 50; (with_reducible refine (tithebarnref02_Ahead_c.calls x275006_2 x275007_2 x275008_2 a1_6 a1_7 a1_8 t276 _ A70.out).mono ?_); rintro e w80 ⟨rfl, hb⟩; have n0_ := Aside0.mk (blk_below (g := gb271) (o := .cells #[.int .i64 a0_0, .int .i64 a0_1, .int .i64 a0_2, .bool a0_3, .int .i64 a0_4, .string a0_5, .bool a0_6, .int .i64 a0_7, .string a0_8] 47 (0, 0)) (by (with_reducible repeat (first | refine blk_drewN ?_ _ | refine blk_drew ?_ | refine blk_alloc ?_ _)); exact BK271.out) hb); have n1_ := Aside0.mk (blk_below (g := gb272) (o := .cells #[.int .i64 a1_0, .int .i64 a1_1, .int .i64 a1_2, .bool a1_3, .int .i64 a1_4, .string a1_5, .bool a1_6, .int .i64 a1_7, .string a1_8] 47 (0, 0)) (by (with_reducible repeat (first | refine blk_drewN ?_ _ | refine blk_drew ?_ | refine blk_alloc ?_ _)); exact BK272.out) hb); have n2_ := Aside0.mk (blk_below (g := gb273) (o := .cells #[.int .i64 0, .int .i64 0, .int .i64 0, .bool false, .int .i64 0, .string (⟨#[]⟩ : ByteArray), .bool false, .int .i64 0, .string (⟨#[]⟩ : ByteArray)] 47 (0, 0)) (by (with_reducible repeat (first | refine blk_drewN ?_ _ | refine blk_drew ?_ | refine blk_alloc ?_ _)); exact BK273.out) hb); have n3_ := Aside0.mk (blk_below (g := gb274) (o := .cells #[.int .i64 (wrap64 (a0_0 + a1_0)), .int .i64 (wrap64 (IntKind.u64.wrap ((IntKind.u64.wrap (a0_1)) + (IntKind.u64.wrap (a1_1))))), .int .i64 (wrap64 (a0_2 + a1_2)), .bool x275003_50, .int .i64 x275004_50, .string x275005_50, .bool x275006_2, .int .i64 x275007_2, .string x275008_2] 47 (0, 0)) (by (with_reducible repeat (first | refine blk_drewN ?_ _ | refine blk_drew ?_ | refine blk_alloc ?_ _)); exact BK274.out) hb); have n4_ := Aside0.mk (below_step (by with_reducible repeat first | exact HB.out | apply below_alloc | apply pw_below_drewN | apply below_drew1 | refine below_set ?_ GE271.out | refine below_set ?_ GE272.out | refine below_set ?_ GE273.out | refine below_set ?_ GE274.out) hb); clear BK271; clear BK272; clear BK273; clear BK274; clear HB; have BK271 := n0_; have BK272 := n1_; have BK273 := n2_; have BK274 := n3_; have HB := n4_; clear n0_ n1_ n2_ n3_ n4_; (try clear hb); (try clear hb2); (try clear hk); (try clear hi)))
          go_meet
          case rel => exact ⟨_, (t276), (by first | rfl | (simp; done) | (simp [*]; done)), H', ⟨by have := HJ2.out; have := HJ25.out; have := HJ50.out; first | omega | exact Nat.le_refl _⟩, ⟨by (with_reducible repeat (first | refine blk_drewN ?_ _ | refine blk_drew ?_ | refine blk_alloc ?_ _)); exact BK271.out⟩, ⟨by (with_reducible repeat (first | refine blk_drewN ?_ _ | refine blk_drew ?_ | refine blk_alloc ?_ _)); exact BK272.out⟩, ⟨by (with_reducible repeat (first | refine blk_drewN ?_ _ | refine blk_drew ?_ | refine blk_alloc ?_ _)); exact BK273.out⟩, ⟨by (with_reducible repeat (first | refine blk_drewN ?_ _ | refine blk_drew ?_ | refine blk_alloc ?_ _)); exact BK274.out⟩, ⟨by repeat (first | (with_reducible first | exact HB.out | apply below_alloc | apply pw_below_drewN | apply below_drew1 | refine below_set ?_ GE271.out | refine below_set ?_ GE272.out | refine below_set ?_ GE273.out | refine below_set ?_ GE274.out) | exact HB.out)⟩⟩
        ·rw [if_neg c61] at H
         have c61b0 : decide (0 < a1_2) = false := decide_eq_false c61
         clear c61
         (first | rw [c61b0] | (simp only [i64_w, i32_w]; rw [c61b0]) | skip)
         have H' := Aside0.mk H
         clear H
         have hnb81 := NB272_271.out
         have hnc81 := NB271_272.out
         have hnb82 := NB272_273.out
         have hnc82 := NB273_272.out
         have hnb83 := NB272_274.out
         have hnc83 := NB274_272.out
         obtain ⟨hcz84_0, hcz84_1, hcz84_2, hcz84_3, hcz84_4, hcz84_5, hcz84_6, hcz84_7, hcz84_8⟩ := bc9 BK272.out
         obtain ⟨hfz84_0, hfz84_1, hfz84_2, hfz84_3, hfz84_4, hfz84_5, hfz84_6, hfz84_7, hfz84_8⟩ := bf9 BK272.out
         go_wp2
         go_meet
         case rel => exact ⟨_, (false), (by first | rfl | (simp; done) | (simp [*]; done)), H', ⟨by have := HJ2.out; have := HJ25.out; have := HJ50.out; first | omega | exact Nat.le_refl _⟩, ⟨by (with_reducible repeat (first | refine blk_drewN ?_ _ | refine blk_drew ?_ | refine blk_alloc ?_ _)); exact BK271.out⟩, ⟨by (with_reducible repeat (first | refine blk_drewN ?_ _ | refine blk_drew ?_ | refine blk_alloc ?_ _)); exact BK272.out⟩, ⟨by (with_reducible repeat (first | refine blk_drewN ?_ _ | refine blk_drew ?_ | refine blk_alloc ?_ _)); exact BK273.out⟩, ⟨by (with_reducible repeat (first | refine blk_drewN ?_ _ | refine blk_drew ?_ | refine blk_alloc ?_ _)); exact BK274.out⟩, ⟨by repeat (first | (with_reducible first | exact HB.out | apply below_alloc | apply pw_below_drewN | apply below_drew1 | refine below_set ?_ GE271.out | refine below_set ?_ GE272.out | refine below_set ?_ GE273.out | refine below_set ?_ GE274.out) | exact HB.out)⟩⟩
       case rest =>
        clear HC60
        try clear c1
        try clear c2
        try clear p2
        try clear c3
        try clear c4
        try clear c5
        try clear c6
        try clear p6
        try clear c7
        try clear c8
        try clear c10
        try clear c13
        try clear c14
        try clear c15
        try clear c18
        try clear c18b0
        try clear c19
        try clear c20
        try clear c21
        try clear c23
        try clear c24
        try clear c27
        try clear c27b0
        try clear c28
        try clear c28b0
        try clear c29
        try clear c30
        try clear c31
        try clear c33
        try clear c34
        try clear c37
        try clear c38
        try clear c39
        try clear c41
        try clear c42
        try clear c44
        try clear c47
        try clear c48
        try clear c49
        try clear c52
        try clear c53
        try clear c54
        try clear c55
        try clear c57
        try clear c58
        try clear c61
        try clear c61b0
        try clear c62
        try clear c62b0
        try clear c63
        try clear c64
        try clear p64
        try clear c65
        try clear c67
        try clear c68
        try clear c71
        try clear c72
        try clear c73
        try clear c75
        try clear c76
        try clear c78
        try clear c81
        try clear c82
        try clear c83
        try clear hcz11_0 hcz11_1 hcz11_2 hcz11_3 hcz11_4 hcz11_5 hcz11_6 hcz11_7 hcz11_8
        try clear hcz16_0 hcz16_1 hcz16_2 hcz16_3 hcz16_4 hcz16_5 hcz16_6 hcz16_7 hcz16_8
        try clear hcz17_0 hcz17_1 hcz17_2 hcz17_3 hcz17_4 hcz17_5 hcz17_6 hcz17_7 hcz17_8
        try clear hcz22_0 hcz22_1 hcz22_2 hcz22_3 hcz22_4 hcz22_5 hcz22_6 hcz22_7 hcz22_8
        try clear hcz25_0 hcz25_1 hcz25_2 hcz25_3 hcz25_4 hcz25_5 hcz25_6 hcz25_7 hcz25_8
        try clear hcz32_0 hcz32_1 hcz32_2 hcz32_3 hcz32_4 hcz32_5 hcz32_6 hcz32_7 hcz32_8
        try clear hcz35_0 hcz35_1 hcz35_2 hcz35_3 hcz35_4 hcz35_5 hcz35_6 hcz35_7 hcz35_8
        try clear hcz40_0 hcz40_1 hcz40_2 hcz40_3 hcz40_4 hcz40_5 hcz40_6 hcz40_7 hcz40_8
        try clear hcz43_0 hcz43_1 hcz43_2 hcz43_3 hcz43_4 hcz43_5 hcz43_6 hcz43_7 hcz43_8
        try clear hcz45_0 hcz45_1 hcz45_2 hcz45_3 hcz45_4 hcz45_5 hcz45_6 hcz45_7 hcz45_8
        try clear hcz50_0 hcz50_1 hcz50_2 hcz50_3 hcz50_4 hcz50_5 hcz50_6 hcz50_7 hcz50_8
        try clear hcz56_0 hcz56_1 hcz56_2 hcz56_3 hcz56_4 hcz56_5 hcz56_6 hcz56_7 hcz56_8
        try clear hcz59_0 hcz59_1 hcz59_2 hcz59_3 hcz59_4 hcz59_5 hcz59_6 hcz59_7 hcz59_8
        try clear hcz66_0 hcz66_1 hcz66_2 hcz66_3 hcz66_4 hcz66_5 hcz66_6 hcz66_7 hcz66_8
        try clear hcz69_0 hcz69_1 hcz69_2 hcz69_3 hcz69_4 hcz69_5 hcz69_6 hcz69_7 hcz69_8
        try clear hcz74_0 hcz74_1 hcz74_2 hcz74_3 hcz74_4 hcz74_5 hcz74_6 hcz74_7 hcz74_8
        try clear hcz77_0 hcz77_1 hcz77_2 hcz77_3 hcz77_4 hcz77_5 hcz77_6 hcz77_7 hcz77_8
        try clear hcz79_0 hcz79_1 hcz79_2 hcz79_3 hcz79_4 hcz79_5 hcz79_6 hcz79_7 hcz79_8
        try clear hcz84_0 hcz84_1 hcz84_2 hcz84_3 hcz84_4 hcz84_5 hcz84_6 hcz84_7 hcz84_8
        try clear hcz9_0 hcz9_1 hcz9_2 hcz9_3 hcz9_4 hcz9_5 hcz9_6 hcz9_7 hcz9_8
        try clear hfz11_0 hfz11_1 hfz11_2 hfz11_3 hfz11_4 hfz11_5 hfz11_6 hfz11_7 hfz11_8
        try clear hfz16_0 hfz16_1 hfz16_2 hfz16_3 hfz16_4 hfz16_5 hfz16_6 hfz16_7 hfz16_8
        try clear hfz17_0 hfz17_1 hfz17_2 hfz17_3 hfz17_4 hfz17_5 hfz17_6 hfz17_7 hfz17_8
        try clear hfz22_0 hfz22_1 hfz22_2 hfz22_3 hfz22_4 hfz22_5 hfz22_6 hfz22_7 hfz22_8
        try clear hfz25_0 hfz25_1 hfz25_2 hfz25_3 hfz25_4 hfz25_5 hfz25_6 hfz25_7 hfz25_8
        try clear hfz32_0 hfz32_1 hfz32_2 hfz32_3 hfz32_4 hfz32_5 hfz32_6 hfz32_7 hfz32_8
        try clear hfz35_0 hfz35_1 hfz35_2 hfz35_3 hfz35_4 hfz35_5 hfz35_6 hfz35_7 hfz35_8
        try clear hfz40_0 hfz40_1 hfz40_2 hfz40_3 hfz40_4 hfz40_5 hfz40_6 hfz40_7 hfz40_8
        try clear hfz43_0 hfz43_1 hfz43_2 hfz43_3 hfz43_4 hfz43_5 hfz43_6 hfz43_7 hfz43_8
        try clear hfz45_0 hfz45_1 hfz45_2 hfz45_3 hfz45_4 hfz45_5 hfz45_6 hfz45_7 hfz45_8
        try clear hfz50_0 hfz50_1 hfz50_2 hfz50_3 hfz50_4 hfz50_5 hfz50_6 hfz50_7 hfz50_8
        try clear hfz56_0 hfz56_1 hfz56_2 hfz56_3 hfz56_4 hfz56_5 hfz56_6 hfz56_7 hfz56_8
        try clear hfz59_0 hfz59_1 hfz59_2 hfz59_3 hfz59_4 hfz59_5 hfz59_6 hfz59_7 hfz59_8
        try clear hfz66_0 hfz66_1 hfz66_2 hfz66_3 hfz66_4 hfz66_5 hfz66_6 hfz66_7 hfz66_8
        try clear hfz69_0 hfz69_1 hfz69_2 hfz69_3 hfz69_4 hfz69_5 hfz69_6 hfz69_7 hfz69_8
        try clear hfz74_0 hfz74_1 hfz74_2 hfz74_3 hfz74_4 hfz74_5 hfz74_6 hfz74_7 hfz74_8
        try clear hfz77_0 hfz77_1 hfz77_2 hfz77_3 hfz77_4 hfz77_5 hfz77_6 hfz77_7 hfz77_8
        try clear hfz79_0 hfz79_1 hfz79_2 hfz79_3 hfz79_4 hfz79_5 hfz79_6 hfz79_7 hfz79_8
        try clear hfz84_0 hfz84_1 hfz84_2 hfz84_3 hfz84_4 hfz84_5 hfz84_6 hfz84_7 hfz84_8
        try clear hfz9_0 hfz9_1 hfz9_2 hfz9_3 hfz9_4 hfz9_5 hfz9_6 hfz9_7 hfz9_8
        try clear p2
        try clear p6
        obtain ⟨kq, x66_59, rfl, HA, HJ59, BK271, BK272, BK273, BK274, HB⟩ := hcut
        cases kq with
        | zero => exact absurd HA.out (by simp [tithebarnref18_Join.j3])
        | succ kj59 =>
         have H := HA.out
         clear HA
         simp only [tithebarnref18_Join.j3] at H
         by_cases c85 : x66_59 = true
         ·subst c85
          have H1 : (some ((wrap64 (a0_0 + a1_0)), (wrap64 (IntKind.u64.wrap ((IntKind.u64.wrap (a0_1)) + (IntKind.u64.wrap (a1_1))))), (wrap64 (a0_2 + a1_2)), x275003_50, x275004_50, x275005_50, a1_6, a1_7, a1_8)) = some (r1, r2, r3, r4, r5, r6, r7, r8, r9) := by rw [if_pos rfl] at H; exact H
          clear H
          have H := H1
          clear H1
          simp only [Option.some.injEq, Prod.mk.injEq] at H
          obtain ⟨rfl, rfl, rfl, rfl, rfl, rfl, rfl, rfl, rfl⟩ := H
          have hnb86 := NB272_271.out
          have hnc86 := NB271_272.out
          have hnb87 := NB272_273.out
          have hnc87 := NB273_272.out
          have hnb88 := NB272_274.out
          have hnc88 := NB274_272.out
          obtain ⟨hcz89_0, hcz89_1, hcz89_2, hcz89_3, hcz89_4, hcz89_5, hcz89_6, hcz89_7, hcz89_8⟩ := bc9 BK272.out
          obtain ⟨hfz89_0, hfz89_1, hfz89_2, hfz89_3, hfz89_4, hfz89_5, hfz89_6, hfz89_7, hfz89_8⟩ := bf9 BK272.out
          have hnb90 := NB274_271.out
          have hnc90 := NB271_274.out
          have hnb91 := NB274_273.out
          have hnc91 := NB273_274.out
          obtain ⟨hcz92_0, hcz92_1, hcz92_2, hcz92_3, hcz92_4, hcz92_5, hcz92_6, hcz92_7, hcz92_8⟩ := bc9 BK274.out
          obtain ⟨hfz92_0, hfz92_1, hfz92_2, hfz92_3, hfz92_4, hfz92_5, hfz92_6, hfz92_7, hfz92_8⟩ := bf9 BK274.out
          have hnb93 := NB273_271.out
          have hnc93 := NB271_273.out
          obtain ⟨hcz94_0, hcz94_1, hcz94_2, hcz94_3, hcz94_4, hcz94_5, hcz94_6, hcz94_7, hcz94_8⟩ := bc9 BK273.out
          obtain ⟨hfz94_0, hfz94_1, hfz94_2, hfz94_3, hfz94_4, hfz94_5, hfz94_6, hfz94_7, hfz94_8⟩ := bf9 BK273.out
          go_wp2
          refine bodyPost_ret (results_cell_row rfl _ _ gb273 47 #[.int .i64 (wrap64 (a0_0 + a1_0)), .int .i64 (wrap64 (IntKind.u64.wrap ((IntKind.u64.wrap (a0_1)) + (IntKind.u64.wrap (a1_1))))), .int .i64 (wrap64 (a0_2 + a1_2)), .bool x275003_50, .int .i64 x275004_50, .string x275005_50, .bool a1_6, .int .i64 a1_7, .string a1_8] (0, 0) _ rfl (by refine blk_put (cs := #[.int .i64 (wrap64 (a0_0 + a1_0)), .int .i64 (wrap64 (IntKind.u64.wrap ((IntKind.u64.wrap (a0_1)) + (IntKind.u64.wrap (a1_1))))), .int .i64 (wrap64 (a0_2 + a1_2)), .bool x275003_50, .int .i64 x275004_50, .string x275005_50, .bool a1_6, .int .i64 a1_7, .string (⟨#[]⟩ : ByteArray)]) ?_ 8 _ rfl; refine blk_put (cs := #[.int .i64 (wrap64 (a0_0 + a1_0)), .int .i64 (wrap64 (IntKind.u64.wrap ((IntKind.u64.wrap (a0_1)) + (IntKind.u64.wrap (a1_1))))), .int .i64 (wrap64 (a0_2 + a1_2)), .bool x275003_50, .int .i64 x275004_50, .string x275005_50, .bool a1_6, .int .i64 0, .string (⟨#[]⟩ : ByteArray)]) ?_ 7 _ rfl; refine blk_put (cs := #[.int .i64 (wrap64 (a0_0 + a1_0)), .int .i64 (wrap64 (IntKind.u64.wrap ((IntKind.u64.wrap (a0_1)) + (IntKind.u64.wrap (a1_1))))), .int .i64 (wrap64 (a0_2 + a1_2)), .bool x275003_50, .int .i64 x275004_50, .string x275005_50, .bool false, .int .i64 0, .string (⟨#[]⟩ : ByteArray)]) ?_ 6 _ rfl; refine blk_put (cs := #[.int .i64 (wrap64 (a0_0 + a1_0)), .int .i64 (wrap64 (IntKind.u64.wrap ((IntKind.u64.wrap (a0_1)) + (IntKind.u64.wrap (a1_1))))), .int .i64 (wrap64 (a0_2 + a1_2)), .bool x275003_50, .int .i64 x275004_50, .string (⟨#[]⟩ : ByteArray), .bool false, .int .i64 0, .string (⟨#[]⟩ : ByteArray)]) ?_ 5 _ rfl; refine blk_put (cs := #[.int .i64 (wrap64 (a0_0 + a1_0)), .int .i64 (wrap64 (IntKind.u64.wrap ((IntKind.u64.wrap (a0_1)) + (IntKind.u64.wrap (a1_1))))), .int .i64 (wrap64 (a0_2 + a1_2)), .bool x275003_50, .int .i64 0, .string (⟨#[]⟩ : ByteArray), .bool false, .int .i64 0, .string (⟨#[]⟩ : ByteArray)]) ?_ 4 _ rfl; refine blk_put (cs := #[.int .i64 (wrap64 (a0_0 + a1_0)), .int .i64 (wrap64 (IntKind.u64.wrap ((IntKind.u64.wrap (a0_1)) + (IntKind.u64.wrap (a1_1))))), .int .i64 (wrap64 (a0_2 + a1_2)), .bool false, .int .i64 0, .string (⟨#[]⟩ : ByteArray), .bool false, .int .i64 0, .string (⟨#[]⟩ : ByteArray)]) ?_ 3 _ rfl; refine blk_put (cs := #[.int .i64 (wrap64 (a0_0 + a1_0)), .int .i64 (wrap64 (IntKind.u64.wrap ((IntKind.u64.wrap (a0_1)) + (IntKind.u64.wrap (a1_1))))), .int .i64 0, .bool false, .int .i64 0, .string (⟨#[]⟩ : ByteArray), .bool false, .int .i64 0, .string (⟨#[]⟩ : ByteArray)]) ?_ 2 _ rfl; refine blk_put (cs := #[.int .i64 (wrap64 (a0_0 + a1_0)), .int .i64 0, .int .i64 0, .bool false, .int .i64 0, .string (⟨#[]⟩ : ByteArray), .bool false, .int .i64 0, .string (⟨#[]⟩ : ByteArray)]) ?_ 1 _ rfl; refine blk_put (cs := #[.int .i64 0, .int .i64 0, .int .i64 0, .bool false, .int .i64 0, .string (⟨#[]⟩ : ByteArray), .bool false, .int .i64 0, .string (⟨#[]⟩ : ByteArray)]) ?_ 0 _ rfl; (iterate 3 (refine blk_far ?_ NB273_274.out _)); (with_reducible repeat (first | refine blk_drewN ?_ _ | refine blk_drew ?_ | refine blk_alloc ?_ _)); exact BK273.out) Try.underlying47 rfl (by kernel_rfl)) rfl ?_
          exact ⟨by first | rfl | (simp [errW_none, errW_some] <;> rfl) | (simp [*, errW_none, errW_some] <;> rfl), by repeat (first | (with_reducible first | exact HB.out | apply below_alloc | apply pw_below_drewN | apply below_drew1 | refine below_set ?_ GE271.out | refine below_set ?_ GE272.out | refine below_set ?_ GE273.out | refine below_set ?_ GE274.out) | exact HB.out)⟩
         ·replace c85 := Bool.eq_false_iff.mpr c85
          subst c85
          have H1 : (some ((wrap64 (a0_0 + a1_0)), (wrap64 (IntKind.u64.wrap ((IntKind.u64.wrap (a0_1)) + (IntKind.u64.wrap (a1_1))))), (wrap64 (a0_2 + a1_2)), x275003_50, x275004_50, x275005_50, x275006_2, x275007_2, x275008_2)) = some (r1, r2, r3, r4, r5, r6, r7, r8, r9) := by rw [if_neg (show ¬ (false = true) by decide)] at H; exact H
          clear H
          have H := H1
          clear H1
          simp only [Option.some.injEq, Prod.mk.injEq] at H
          obtain ⟨rfl, rfl, rfl, rfl, rfl, rfl, rfl, rfl, rfl⟩ := H
          have hnb95 := NB274_271.out
          have hnc95 := NB271_274.out
          have hnb96 := NB274_272.out
          have hnc96 := NB272_274.out
          have hnb97 := NB274_273.out
          have hnc97 := NB273_274.out
          obtain ⟨hcz98_0, hcz98_1, hcz98_2, hcz98_3, hcz98_4, hcz98_5, hcz98_6, hcz98_7, hcz98_8⟩ := bc9 BK274.out
          obtain ⟨hfz98_0, hfz98_1, hfz98_2, hfz98_3, hfz98_4, hfz98_5, hfz98_6, hfz98_7, hfz98_8⟩ := bf9 BK274.out
          have hnb99 := NB273_271.out
          have hnc99 := NB271_273.out
          have hnb100 := NB273_272.out
          have hnc100 := NB272_273.out
          obtain ⟨hcz101_0, hcz101_1, hcz101_2, hcz101_3, hcz101_4, hcz101_5, hcz101_6, hcz101_7, hcz101_8⟩ := bc9 BK273.out
          obtain ⟨hfz101_0, hfz101_1, hfz101_2, hfz101_3, hfz101_4, hfz101_5, hfz101_6, hfz101_7, hfz101_8⟩ := bf9 BK273.out
          go_wp2
          refine bodyPost_ret (results_cell_row rfl _ _ gb273 47 #[.int .i64 (wrap64 (a0_0 + a1_0)), .int .i64 (wrap64 (IntKind.u64.wrap ((IntKind.u64.wrap (a0_1)) + (IntKind.u64.wrap (a1_1))))), .int .i64 (wrap64 (a0_2 + a1_2)), .bool x275003_50, .int .i64 x275004_50, .string x275005_50, .bool x275006_2, .int .i64 x275007_2, .string x275008_2] (0, 0) _ rfl (by refine blk_put (cs := #[.int .i64 (wrap64 (a0_0 + a1_0)), .int .i64 (wrap64 (IntKind.u64.wrap ((IntKind.u64.wrap (a0_1)) + (IntKind.u64.wrap (a1_1))))), .int .i64 (wrap64 (a0_2 + a1_2)), .bool x275003_50, .int .i64 x275004_50, .string x275005_50, .bool x275006_2, .int .i64 x275007_2, .string (⟨#[]⟩ : ByteArray)]) ?_ 8 _ rfl; refine blk_put (cs := #[.int .i64 (wrap64 (a0_0 + a1_0)), .int .i64 (wrap64 (IntKind.u64.wrap ((IntKind.u64.wrap (a0_1)) + (IntKind.u64.wrap (a1_1))))), .int .i64 (wrap64 (a0_2 + a1_2)), .bool x275003_50, .int .i64 x275004_50, .string x275005_50, .bool x275006_2, .int .i64 0, .string (⟨#[]⟩ : ByteArray)]) ?_ 7 _ rfl; refine blk_put (cs := #[.int .i64 (wrap64 (a0_0 + a1_0)), .int .i64 (wrap64 (IntKind.u64.wrap ((IntKind.u64.wrap (a0_1)) + (IntKind.u64.wrap (a1_1))))), .int .i64 (wrap64 (a0_2 + a1_2)), .bool x275003_50, .int .i64 x275004_50, .string x275005_50, .bool false, .int .i64 0, .string (⟨#[]⟩ : ByteArray)]) ?_ 6 _ rfl; refine blk_put (cs := #[.int .i64 (wrap64 (a0_0 + a1_0)), .int .i64 (wrap64 (IntKind.u64.wrap ((IntKind.u64.wrap (a0_1)) + (IntKind.u64.wrap (a1_1))))), .int .i64 (wrap64 (a0_2 + a1_2)), .bool x275003_50, .int .i64 x275004_50, .string (⟨#[]⟩ : ByteArray), .bool false, .int .i64 0, .string (⟨#[]⟩ : ByteArray)]) ?_ 5 _ rfl; refine blk_put (cs := #[.int .i64 (wrap64 (a0_0 + a1_0)), .int .i64 (wrap64 (IntKind.u64.wrap ((IntKind.u64.wrap (a0_1)) + (IntKind.u64.wrap (a1_1))))), .int .i64 (wrap64 (a0_2 + a1_2)), .bool x275003_50, .int .i64 0, .string (⟨#[]⟩ : ByteArray), .bool false, .int .i64 0, .string (⟨#[]⟩ : ByteArray)]) ?_ 4 _ rfl; refine blk_put (cs := #[.int .i64 (wrap64 (a0_0 + a1_0)), .int .i64 (wrap64 (IntKind.u64.wrap ((IntKind.u64.wrap (a0_1)) + (IntKind.u64.wrap (a1_1))))), .int .i64 (wrap64 (a0_2 + a1_2)), .bool false, .int .i64 0, .string (⟨#[]⟩ : ByteArray), .bool false, .int .i64 0, .string (⟨#[]⟩ : ByteArray)]) ?_ 3 _ rfl; refine blk_put (cs := #[.int .i64 (wrap64 (a0_0 + a1_0)), .int .i64 (wrap64 (IntKind.u64.wrap ((IntKind.u64.wrap (a0_1)) + (IntKind.u64.wrap (a1_1))))), .int .i64 0, .bool false, .int .i64 0, .string (⟨#[]⟩ : ByteArray), .bool false, .int .i64 0, .string (⟨#[]⟩ : ByteArray)]) ?_ 2 _ rfl; refine blk_put (cs := #[.int .i64 (wrap64 (a0_0 + a1_0)), .int .i64 0, .int .i64 0, .bool false, .int .i64 0, .string (⟨#[]⟩ : ByteArray), .bool false, .int .i64 0, .string (⟨#[]⟩ : ByteArray)]) ?_ 1 _ rfl; refine blk_put (cs := #[.int .i64 0, .int .i64 0, .int .i64 0, .bool false, .int .i64 0, .string (⟨#[]⟩ : ByteArray), .bool false, .int .i64 0, .string (⟨#[]⟩ : ByteArray)]) ?_ 0 _ rfl; (with_reducible repeat (first | refine blk_drewN ?_ _ | refine blk_drew ?_ | refine blk_alloc ?_ _)); exact BK273.out) Try.underlying47 rfl (by kernel_rfl)) rfl ?_
          exact ⟨by first | rfl | (simp [errW_none, errW_some] <;> rfl) | (simp [*, errW_none, errW_some] <;> rfl), by repeat (first | (with_reducible first | exact HB.out | apply below_alloc | apply pw_below_drewN | apply below_drew1 | refine below_set ?_ GE271.out | refine below_set ?_ GE272.out | refine below_set ?_ GE273.out | refine below_set ?_ GE274.out) | exact HB.out)⟩

end Go.Proofs.Ythlelhndmnkmjaa.Pr
