-- printed by xprint.py (this seat's own program, over the kit's print.py); not trusted: Lean checks it
import Derived.Test.YthlelhndmnkmjaaPr0
import Derived.Test.YthlelhndmnkmjaaPrE37
import Derived.Test.YthlelhndmnkmjaaPrf32
import Derived.Test.YthlelhndmnkmjaaPrf26
import Derived.Test.YthlelhndmnkmjaaPrf24
import Derived.Test.YthlelhndmnkmjaaPrf27
import Derived.Test.YthlelhndmnkmjaaPrf33
import Derived.Test.YthlelhndmnkmjaaPrf30
import Derived.Test.YthlelhndmnkmjaaPrf34
namespace Go.Proofs.Ythlelhndmnkmjaa.Pr
open Go.RowKit Go.Proofs.YthlelhndmnkmjaaW.PrintWords Go.Proofs.YthlelhndmnkmjaaW.PrintLast Go.Proofs.YthlelhndmnkmjaaW.PrintMore
attribute [local go_sem] max2_int min2_int max_two min_two max_three min_three max_four min_four   -- for this text's walks alone
set_option linter.unusedVariables false
set_option linter.unusedSimpArgs false

attribute [local go_sem high] eqA47
/-! ### tithebarnlaw24_GroupsTotal: function 11 -/
mutual
def tithebarnlaw24_GroupsTotal.l0 : Nat → List (List (S37)) → Int → List (S49) → Int → Int → Int → Int → Int → Bool → Int → ByteArray → Bool → Int → ByteArray → Option (Bool)
 | 0, _, _, _, _, _, _, _, _, _, _, _, _, _, _ => none
 | k + 1, x0, x1, x7, x10, x11, x376000, x376001, x376002, x376003, x376004, x376005, x376006, x376007, x376008 => if x11 < (x7.length : Int) then (tithebarnlaw24_GroupsTotal.l1 k x0 x1 x7 x10 x11 0 0 x376000 x376001 x376002 x376003 x376004 x376005 x376006 x376007 x376008) else (if x10 = 0 then ((groups_Total.f k x7).bind fun bt376 => (if (bt376.1 == x376000 && (bt376.2.1 == x376001 && (bt376.2.2.1 == x376002 && ((bt376.2.2.2.1 == x376003 && (bt376.2.2.2.2.1 == x376004 && (bt376.2.2.2.2.2.1.toList == x376005.toList))) && ((bt376.2.2.2.2.2.2.1 == x376006 && (bt376.2.2.2.2.2.2.2.1 == x376007 && (bt376.2.2.2.2.2.2.2.2.toList == x376008.toList)))))))) = true then ((tithebarnref24_Sorted.f k x7).bind fun t385 => (some t385)) else (some false))) else (some false))
def tithebarnlaw24_GroupsTotal.l1 : Nat → List (List (S37)) → Int → List (S49) → Int → Int → Int → Int → Int → Int → Int → Bool → Int → ByteArray → Bool → Int → ByteArray → Option (Bool)
 | 0, _, _, _, _, _, _, _, _, _, _, _, _, _, _, _, _ => none
 | k + 1, x0, x1, x7, x10, x11, x12, x13, x376000, x376001, x376002, x376003, x376004, x376005, x376006, x376007, x376008 => if x13 < (x0.length : Int) then (if 0 ≤ x13 then (if 0 ≤ x1 then (if x1 < ((rd_L7 x0 x13).length : Int) then (if 0 ≤ x11 then (if x11 < (x7.length : Int) then ((tithebarnref02_Compare_c.f ((rd_T37 (rd_L7 x0 x13) x1).f0) ((rd_T37 (rd_L7 x0 x13) x1).f1) ((rd_T37 (rd_L7 x0 x13) x1).f2) ((rd_T49 x7 x11).f0.f0) ((rd_T49 x7 x11).f0.f1) ((rd_T49 x7 x11).f0.f2)).bind fun t389 => (if t389 = 0 then (tithebarnlaw24_GroupsTotal.l1 k x0 x1 x7 x10 x11 (wrap64 (x12 + 1)) (wrap64 (x13 + 1)) x376000 x376001 x376002 x376003 x376004 x376005 x376006 x376007 x376008) else (tithebarnlaw24_GroupsTotal.l1 k x0 x1 x7 x10 x11 x12 (wrap64 (x13 + 1)) x376000 x376001 x376002 x376003 x376004 x376005 x376006 x376007 x376008))) else (none)) else (none)) else (none)) else (none)) else (none)) else (if x12 = 0 then (some false) else (if 0 ≤ x11 then (if x11 < (x7.length : Int) then (if x12 = ((rd_T49 x7 x11).f1.f0) then (tithebarnlaw24_GroupsTotal.l0 k x0 x1 x7 x10 (wrap64 (x11 + 1)) x376000 x376001 x376002 x376003 x376004 x376005 x376006 x376007 x376008) else (some false)) else (none)) else (none)))
end
def tithebarnlaw24_GroupsTotal.f (k : Nat) (l0 : List (List (S37))) (a1 : Int) (a2 : Int) : Option (Bool) := (tithebarnlaw24_lives.f k).bind fun t357 => (if t357 = true then ((tithebarnlaw24_early.f l0).bind fun t358 => ((groups_By.f k t358 a1 a2).bind fun bt361 => ((sums_Fold_c.f t358 a2).bind fun bt365 => (if bt361.2 = 0 then (tithebarnlaw24_GroupsTotal.l0 k t358 a1 bt361.1 bt365.2.2.2.2.2.2.2.2.2 0 bt365.1 bt365.2.1 bt365.2.2.1 bt365.2.2.2.1 bt365.2.2.2.2.1 bt365.2.2.2.2.2.1 bt365.2.2.2.2.2.2.1 bt365.2.2.2.2.2.2.2.1 bt365.2.2.2.2.2.2.2.2.1) else (some ((bt361.1.length : Int) == 0)))))) else (some false))
theorem tithebarnlaw24_GroupsTotal.mono_l : ∀ k, (∀ y0 y1 y2 y3 y4 y5 y6 y7 y8 y9 y10 y11 y12 y13, LeO (tithebarnlaw24_GroupsTotal.l0 k y0 y1 y2 y3 y4 y5 y6 y7 y8 y9 y10 y11 y12 y13) (tithebarnlaw24_GroupsTotal.l0 (k + 1) y0 y1 y2 y3 y4 y5 y6 y7 y8 y9 y10 y11 y12 y13)) ∧ (∀ y0 y1 y2 y3 y4 y5 y6 y7 y8 y9 y10 y11 y12 y13 y14 y15, LeO (tithebarnlaw24_GroupsTotal.l1 k y0 y1 y2 y3 y4 y5 y6 y7 y8 y9 y10 y11 y12 y13 y14 y15) (tithebarnlaw24_GroupsTotal.l1 (k + 1) y0 y1 y2 y3 y4 y5 y6 y7 y8 y9 y10 y11 y12 y13 y14 y15))
 | 0 => ⟨fun _ _ _ _ _ _ _ _ _ _ _ _ _ _ r h => by simp [tithebarnlaw24_GroupsTotal.l0] at h, fun _ _ _ _ _ _ _ _ _ _ _ _ _ _ _ _ r h => by simp [tithebarnlaw24_GroupsTotal.l1] at h⟩
 | k + 1 => by
  obtain ⟨ih0, ih1⟩ := tithebarnlaw24_GroupsTotal.mono_l k
  refine ⟨?_, ?_⟩
  ·intro y0 y1 y2 y3 y4 y5 y6 y7 y8 y9 y10 y11 y12 y13
   unfold tithebarnlaw24_GroupsTotal.l0
   repeat' first
   | (with_reducible exact ih0 _ _ _ _ _ _ _ _ _ _ _ _ _ _)
   | (with_reducible exact ih1 _ _ _ _ _ _ _ _ _ _ _ _ _ _ _ _)
   | (with_reducible exact groups_By.mono _ _ _ _)
   | (with_reducible exact groups_Total.mono _ _)
   | (with_reducible exact tithebarnlaw24_lives.mono _)
   | (with_reducible exact tithebarnref24_Sorted.mono _ _)
   | (with_reducible exact LeO.refl _)
   | (with_reducible exact LeO.none _)
   | (with_reducible refine LeO.ite ?_ ?_)
   | (with_reducible refine LeO.bind ?_ (fun _ => ?_))
   | exact ih0 _ _ _ _ _ _ _ _ _ _ _ _ _ _
   | exact ih1 _ _ _ _ _ _ _ _ _ _ _ _ _ _ _ _
   | exact groups_By.mono _ _ _ _
   | exact groups_Total.mono _ _
   | exact tithebarnlaw24_lives.mono _
   | exact tithebarnref24_Sorted.mono _ _
   | exact LeO.none _
   | refine LeO.ite ?_ ?_
   | refine LeO.bind ?_ (fun _ => ?_)
  ·intro y0 y1 y2 y3 y4 y5 y6 y7 y8 y9 y10 y11 y12 y13 y14 y15
   unfold tithebarnlaw24_GroupsTotal.l1
   repeat' first
   | (with_reducible exact ih0 _ _ _ _ _ _ _ _ _ _ _ _ _ _)
   | (with_reducible exact ih1 _ _ _ _ _ _ _ _ _ _ _ _ _ _ _ _)
   | (with_reducible exact groups_By.mono _ _ _ _)
   | (with_reducible exact groups_Total.mono _ _)
   | (with_reducible exact tithebarnlaw24_lives.mono _)
   | (with_reducible exact tithebarnref24_Sorted.mono _ _)
   | (with_reducible exact LeO.refl _)
   | (with_reducible exact LeO.none _)
   | (with_reducible refine LeO.ite ?_ ?_)
   | (with_reducible refine LeO.bind ?_ (fun _ => ?_))
   | exact ih0 _ _ _ _ _ _ _ _ _ _ _ _ _ _
   | exact ih1 _ _ _ _ _ _ _ _ _ _ _ _ _ _ _ _
   | exact groups_By.mono _ _ _ _
   | exact groups_Total.mono _ _
   | exact tithebarnlaw24_lives.mono _
   | exact tithebarnref24_Sorted.mono _ _
   | exact LeO.none _
   | refine LeO.ite ?_ ?_
   | refine LeO.bind ?_ (fun _ => ?_)
theorem tithebarnlaw24_GroupsTotal.mono : ∀ a0 a1 a2 k, LeO (tithebarnlaw24_GroupsTotal.f k a0 a1 a2) (tithebarnlaw24_GroupsTotal.f (k + 1) a0 a1 a2) := by
 intro a0 a1 a2 k
 obtain ⟨ih0, ih1⟩ := tithebarnlaw24_GroupsTotal.mono_l k
 unfold tithebarnlaw24_GroupsTotal.f
 repeat' first
   | (with_reducible exact ih0 _ _ _ _ _ _ _ _ _ _ _ _ _ _)
   | (with_reducible exact ih1 _ _ _ _ _ _ _ _ _ _ _ _ _ _ _ _)
   | (with_reducible exact groups_By.mono _ _ _ _)
   | (with_reducible exact groups_Total.mono _ _)
   | (with_reducible exact tithebarnlaw24_lives.mono _)
   | (with_reducible exact tithebarnref24_Sorted.mono _ _)
   | (with_reducible exact LeO.refl _)
   | (with_reducible exact LeO.none _)
   | (with_reducible refine LeO.ite ?_ ?_)
   | (with_reducible refine LeO.bind ?_ (fun _ => ?_))
   | exact ih0 _ _ _ _ _ _ _ _ _ _ _ _ _ _
   | exact ih1 _ _ _ _ _ _ _ _ _ _ _ _ _ _ _ _
   | exact groups_By.mono _ _ _ _
   | exact groups_Total.mono _ _
   | exact tithebarnlaw24_lives.mono _
   | exact tithebarnref24_Sorted.mono _ _
   | exact LeO.none _
   | refine LeO.ite ?_ ?_
   | refine LeO.bind ?_ (fun _ => ?_)
def tithebarnlaw24_GroupsTotal.T15 : Bool × List (List Nat × List Nat) := (true, [([], []), ([], []), ([0, 1], [0, 1]), ([2], [2]), ([], []), ([3, 4], [3, 4]), ([5], [5]), ([], []), ([], []), ([7, 8], [7, 8]), ([9], [9]), ([10], [10]), ([6, 11], [6, 11]), ([12], [12])])
def tithebarnlaw24_GroupsTotal.B15 : List Nat := [0, 0, 3, 7, 0, 31, 63, 0, 0, 384, 896, 1920, 4095, 8191]
theorem tithebarnlaw24_GroupsTotal.tab15 : rtab .any (opsOf Try.f11 15) = tithebarnlaw24_GroupsTotal.T15 := by kernel_rfl
theorem tithebarnlaw24_GroupsTotal.bits15 : waitsOk tithebarnlaw24_GroupsTotal.T15.2 tithebarnlaw24_GroupsTotal.B15 = true := by kernel_rfl
def tithebarnlaw24_GroupsTotal.T19 : Bool × List (List Nat × List Nat) := (true, [([], []), ([0], [0]), ([1], [1]), ([2], [2]), ([3, 2, 2], [2, 3]), ([2], [2]), ([4, 5, 2], [2, 4, 5]), ([2, 6], [2, 6]), ([7, 4], [7]), ([8], [8]), ([9, 8, 8], [8, 9]), ([8, 10], [8, 10]), ([11, 10, 0, 1, 2, 3, 4, 5, 6, 7, 8, 9, 10, 11], [11])])
def tithebarnlaw24_GroupsTotal.B19 : List Nat := [0, 1, 3, 7, 15, 7, 63, 127, 255, 511, 1023, 2047, 4095]
theorem tithebarnlaw24_GroupsTotal.tab19 : rtab .any (opsOf Try.f11 19) = tithebarnlaw24_GroupsTotal.T19 := by kernel_rfl
theorem tithebarnlaw24_GroupsTotal.bits19 : waitsOk tithebarnlaw24_GroupsTotal.T19.2 tithebarnlaw24_GroupsTotal.B19 = true := by kernel_rfl
set_option maxHeartbeats 8000000 in
set_option maxRecDepth 100000 in
theorem tithebarnlaw24_GroupsTotal.calls (k : Nat) (A0 : Option Addr) (c0 : Nat) (l0 : List (List (S37))) (a1 : Int) (a2 : Int) (r : Bool) (w : World) (hr0 : Kd.C (Kd.slice 37 k37) w A0 l0.length l0) (hc0 : l0.length ≤ c0) (h : tithebarnlaw24_GroupsTotal.f k l0 a1 a2 = some r) :
  Calls Try.prog 11 #[.slice A0 l0.length c0, .int .i64 a1, .int .i64 a2] w fun e w' => e = .returned (.bool r) ∧ Below w.heap.size w w' := by
 have hu47 := Try.underlying47
 have hu37 := Try.underlying37
 have HR0 := Aside0.mk hr0
 have HC0 := Aside0.mk hc0
 clear hr0 hc0
 have HB := Aside0.mk (Below.refl w.heap.size w)
 have H : ((tithebarnlaw24_lives.f k).bind fun t357 => (if t357 = true then ((tithebarnlaw24_early.f l0).bind fun t358 => ((groups_By.f k t358 a1 a2).bind fun bt361 => ((sums_Fold_c.f t358 a2).bind fun bt365 => (if bt361.2 = 0 then (tithebarnlaw24_GroupsTotal.l0 k t358 a1 bt361.1 bt365.2.2.2.2.2.2.2.2.2 0 bt365.1 bt365.2.1 bt365.2.2.1 bt365.2.2.2.1 bt365.2.2.2.2.1 bt365.2.2.2.2.2.1 bt365.2.2.2.2.2.2.1 bt365.2.2.2.2.2.2.2.1 bt365.2.2.2.2.2.2.2.2.1) else (some ((bt361.1.length : Int) == 0)))))) else (some false))) = some r := h
 clear h
 replace H := Option.bind_eq_some_iff.mp H
 obtain ⟨t357, A40, H⟩ := H
 replace H : (if t357 = true then ((tithebarnlaw24_early.f l0).bind fun t358 => ((groups_By.f k t358 a1 a2).bind fun bt361 => ((sums_Fold_c.f t358 a2).bind fun bt365 => (if bt361.2 = 0 then (tithebarnlaw24_GroupsTotal.l0 k t358 a1 bt361.1 bt365.2.2.2.2.2.2.2.2.2 0 bt365.1 bt365.2.1 bt365.2.2.1 bt365.2.2.2.1 bt365.2.2.2.2.1 bt365.2.2.2.2.2.1 bt365.2.2.2.2.2.2.1 bt365.2.2.2.2.2.2.2.1 bt365.2.2.2.2.2.2.2.2.1) else (some ((bt361.1.length : Int) == 0)))))) else (some false)) = some r := H
 have A4 := Aside0.mk A40
 clear A40
 by_cases c5 : t357 = true
 ·subst c5
  have H1 : ((tithebarnlaw24_early.f l0).bind fun t358 => ((groups_By.f k t358 a1 a2).bind fun bt361 => ((sums_Fold_c.f t358 a2).bind fun bt365 => (if bt361.2 = 0 then (tithebarnlaw24_GroupsTotal.l0 k t358 a1 bt361.1 bt365.2.2.2.2.2.2.2.2.2 0 bt365.1 bt365.2.1 bt365.2.2.1 bt365.2.2.2.1 bt365.2.2.2.2.1 bt365.2.2.2.2.2.1 bt365.2.2.2.2.2.2.1 bt365.2.2.2.2.2.2.2.1 bt365.2.2.2.2.2.2.2.2.1) else (some ((bt361.1.length : Int) == 0)))))) = some r := by rw [if_pos rfl] at H; exact H
  clear H
  have H := H1
  clear H1
  replace H := Option.bind_eq_some_iff.mp H
  obtain ⟨t358, A60, H⟩ := H
  replace H : ((groups_By.f k t358 a1 a2).bind fun bt361 => ((sums_Fold_c.f t358 a2).bind fun bt365 => (if bt361.2 = 0 then (tithebarnlaw24_GroupsTotal.l0 k t358 a1 bt361.1 bt365.2.2.2.2.2.2.2.2.2 0 bt365.1 bt365.2.1 bt365.2.2.1 bt365.2.2.2.1 bt365.2.2.2.2.1 bt365.2.2.2.2.2.1 bt365.2.2.2.2.2.2.1 bt365.2.2.2.2.2.2.2.1 bt365.2.2.2.2.2.2.2.2.1) else (some ((bt361.1.length : Int) == 0))))) = some r := H
  have A6 := Aside0.mk A60
  clear A60
  replace H := Option.bind_eq_some_iff.mp H
  obtain ⟨⟨t361, t364⟩, A70, H⟩ := H
  replace H : ((sums_Fold_c.f t358 a2).bind fun bt365 => (if t364 = 0 then (tithebarnlaw24_GroupsTotal.l0 k t358 a1 t361 bt365.2.2.2.2.2.2.2.2.2 0 bt365.1 bt365.2.1 bt365.2.2.1 bt365.2.2.2.1 bt365.2.2.2.2.1 bt365.2.2.2.2.2.1 bt365.2.2.2.2.2.2.1 bt365.2.2.2.2.2.2.2.1 bt365.2.2.2.2.2.2.2.2.1) else (some ((t361.length : Int) == 0)))) = some r := H
  have A7 := Aside0.mk A70
  clear A70
  replace H := Option.bind_eq_some_iff.mp H
  obtain ⟨⟨t365, t366, t367, t368, t369, t370, t371, t372, t373, t374⟩, A80, H⟩ := H
  replace H : (if t364 = 0 then (tithebarnlaw24_GroupsTotal.l0 k t358 a1 t361 t374 0 t365 t366 t367 t368 t369 t370 t371 t372 t373) else (some ((t361.length : Int) == 0))) = some r := H
  have A8 := Aside0.mk A80
  clear A80
  by_cases c9 : t364 = 0
  ·rw [if_pos c9] at H
   have c9b0 : (t364 == 0) = true := beq_iff_eq.mpr c9
   have c9b1 : (t364 != 0) = false := bne_eq_false_iff_eq.mpr c9
   clear c9
   have H' := Aside0.mk H
   clear H
   go_enter Try.func11, Try.ntmps11
   go_wp2_with (first | ((with_reducible refine gate_callee (f := 24) rfl ?_); refine goesL_ (some 14) rfl rfl Try.func24 (by kernel_rfl) rfl #[] rfl (by (try simp only [List.map_toArray, List.map_cons, List.map_nil]); first | done | rfl | (simp only [List.length_drop, List.length_take]; rfl)) ?_; (with_reducible refine (tithebarnlaw24_lives.calls k  true _ A4.out).mono ?_); rintro e w10 ⟨rfl, hb⟩; refine ⟨_, rfl, ?_⟩; have n0_ := Aside0.mk (below_step (by repeat (first | (with_reducible first | exact HB.out | apply below_alloc | apply pw_below_drewN | apply below_drew1) | exact HB.out)) hb); clear HB; have HB := n0_; clear n0_; (try clear hb); (try clear hb2); (try clear hk); (try clear hi)) | ((with_reducible refine gate_callee (f := 27) rfl ?_); refine goesL_ (some 17) rfl rfl Try.func27 (by kernel_rfl) rfl #[.slice A0 l0.length c0] rfl (by (try simp only [List.map_toArray, List.map_cons, List.map_nil]); first | done | rfl | (simp only [List.length_drop, List.length_take]; rfl)) ?_; (with_reducible refine (tithebarnlaw24_early.calls (fun k_ => k_ < w.heap.size) _ _ l0 t358 _ ?side1 A6.out).mono ?_); (case side1 => exact Kd.V_mk HC0.out (Kd.F_below (Kd.C_F (Kd.heap_slice 37 k37_heap) HR0.out) (by repeat (first | (with_reducible first | exact HB.out | apply below_alloc | apply pw_below_drewN | apply below_drew1) | exact HB.out)))); rintro e w11 ⟨v359, rfl, ho0, hb⟩; refine ⟨_, rfl, ?_⟩; have n0_ := Aside0.mk (Kd.V_lower (Kd.V_mono (ok' := fun k_ => True) ho0 (fun k_ hk_ => trivial)) (below_size (by repeat (first | (with_reducible first | exact HB.out | apply below_alloc | apply pw_below_drewN | apply below_drew1) | exact HB.out)))); have n1_ := Aside0.mk (below_step (by repeat (first | (with_reducible first | exact HB.out | apply below_alloc | apply pw_below_drewN | apply below_drew1) | exact HB.out)) hb); clear HB; have HO360 := n0_; have HB := n1_; clear n0_ n1_; (try clear hb); (try clear hb2); (try clear hk); (try clear hi); (try clear ho0); obtain ⟨Ao12, co12, eo12⟩ := Kd.V_slice HO360.out; subst eo12) | ((with_reducible refine gate_callee (f := 26) rfl ?_); refine goesL_ (some 22) rfl rfl Try.func26 (by kernel_rfl) rfl #[.slice Ao12 t358.length co12, .int .i64 a1, .int .i64 a2] rfl (by (try simp only [List.map_toArray, List.map_cons, List.map_nil]); first | done | rfl | (simp only [List.length_drop, List.length_take]; rfl)) ?_; (with_reducible refine (groups_By.calls k (fun k_ => True) _ _ t358 a1 a2 t361 t364 _ ?side1 A7.out).mono ?_); (case side1 => exact HO360.out); rintro e w13 ⟨v362, rfl, ho0, hb⟩; refine ⟨_, rfl, ?_⟩; have n0_ := Aside0.mk (Kd.V_elder' (by (with_reducible repeat (first | apply Kd.V_alloc | apply Kd.V_drewN | apply Kd.V_drew)); exact HO360.out) (Kd.R_base ho0) hb); have n1_ := Aside0.mk (Kd.R_lower (Kd.R_mono (ok' := fun k_ => True) ho0 (fun _ hk_ => trivial)) (below_size (by repeat (first | (with_reducible first | exact HB.out | apply below_alloc | apply pw_below_drewN | apply below_drew1) | exact HB.out)))); have n2_ := Aside0.mk (below_step (by repeat (first | (with_reducible first | exact HB.out | apply below_alloc | apply pw_below_drewN | apply below_drew1) | exact HB.out)) hb); clear HO360; clear HB; have HO360 := n0_; have HO363 := n1_; have HB := n2_; clear n0_ n1_ n2_; (try clear hb); (try clear hb2); (try clear hk); (try clear hi); (try clear ho0)) | ((with_reducible refine gate_callee (f := 32) rfl ?_); refine goesL_ (some 28) rfl rfl Try.func32 (by kernel_rfl) rfl #[.slice Ao12 t358.length co12, .int .i64 a2] rfl (by (try simp only [List.map_toArray, List.map_cons, List.map_nil]); first | done | rfl | (simp only [List.length_drop, List.length_take]; rfl)) ?_; (with_reducible refine (sums_Fold_c.calls _ _ t358 a2 t365 t366 t367 t368 t369 t370 t371 t372 t373 t374 _ ?side1 ?side2 A8.out).mono ?_); (case side1 => repeat (first | exact (Kd.V_reads' HO360.out).2.2 | (with_reducible refine Kd.C_alloc ?_ _) | (with_reducible refine Kd.C_drewN ?_ _) | (with_reducible refine Kd.C_drew ?_))); (case side2 => exact (Kd.V_reads' HO360.out).2.1); rintro e w14 ⟨rfl, hb⟩; refine ⟨_, rfl, ?_⟩; have n0_ := Aside0.mk (Kd.V_below (by (with_reducible repeat (first | apply Kd.V_alloc | apply Kd.V_drewN | apply Kd.V_drew)); exact HO360.out) hb); have n1_ := Aside0.mk (Kd.R_below (by (with_reducible repeat (first | apply Kd.R_alloc | apply Kd.R_drewN | apply Kd.R_drew)); exact HO363.out) hb); have n2_ := Aside0.mk (below_step (by repeat (first | (with_reducible first | exact HB.out | apply below_alloc | apply pw_below_drewN | apply below_drew1) | exact HB.out)) hb); clear HO360; clear HO363; clear HB; have HO360 := n0_; have HO363 := n1_; have HB := n2_; clear n0_ n1_ n2_; (try clear hb); (try clear hb2); (try clear hk); (try clear hi)) | ((with_reducible refine gate_dst (N := 9) rfl ?_); refine box_event ?hg (N := 9) ?hd (cs := #[.int .i64 0, .int .i64 0, .int .i64 0, .bool false, .int .i64 0, .string (⟨#[]⟩ : ByteArray), .bool false, .int .i64 0, .string (⟨#[]⟩ : ByteArray)]) (t := 47) ?hr ?_; (case hd => rfl); (case hg => rfl); (case hr => first | (go_simp; done) | (go_simp; rfl)); intro gb375 hg w15 hbox hb; have n0_ := Aside0.mk (Kd.V_below (Kd.V_elderB (by (with_reducible repeat (first | apply Kd.V_alloc | apply Kd.V_drewN | apply Kd.V_drew)); exact HO360.out) gb375 (Nat.le_of_eq hg.symm)) hb); have n1_ := Aside0.mk (Kd.R_below (by (with_reducible repeat (first | apply Kd.R_alloc | apply Kd.R_drewN | apply Kd.R_drew)); exact HO363.out) hb); have n2_ := Aside0.mk (below_step (by repeat (first | (with_reducible first | exact HB.out | apply below_alloc | apply pw_below_drewN | apply below_drew1) | exact HB.out)) hb); have n3_ := Aside0.mk (hbox); have n4_ := Aside0.mk ((by rw [hg]; exact (below_size (by repeat (first | (with_reducible first | exact HB.out | apply below_alloc | apply pw_below_drewN | apply below_drew1) | exact HB.out))) : w.heap.size ≤ gb375)); have n5_ := Aside0.mk ((by rw [hg]; exact (below_size (by repeat (first | (with_reducible first | exact HB.out | apply below_alloc | apply pw_below_drewN | apply below_drew1) | exact HB.out))) : w.heap.size ≤ gb375)); clear HO360; clear HO363; clear HB; have HO360 := n0_; have HO363 := n1_; have HB := n2_; have BK375 := n3_; have GW375 := n4_; have GE375 := n5_; clear n0_ n1_ n2_ n3_ n4_ n5_; clear hb hbox hg; have hcz16_0 : w15.cell? ⟨gb375, 0, none⟩ = some (.int .i64 0) := (blk_cell BK375.out 0).trans rfl; have hcz16_1 : w15.cell? ⟨gb375, 1, none⟩ = some (.int .i64 0) := (blk_cell BK375.out 1).trans rfl; have hcz16_2 : w15.cell? ⟨gb375, 2, none⟩ = some (.int .i64 0) := (blk_cell BK375.out 2).trans rfl; have hcz16_3 : w15.cell? ⟨gb375, 3, none⟩ = some (.bool false) := (blk_cell BK375.out 3).trans rfl; have hcz16_4 : w15.cell? ⟨gb375, 4, none⟩ = some (.int .i64 0) := (blk_cell BK375.out 4).trans rfl; have hcz16_5 : w15.cell? ⟨gb375, 5, none⟩ = some (.string (⟨#[]⟩ : ByteArray)) := (blk_cell BK375.out 5).trans rfl; have hcz16_6 : w15.cell? ⟨gb375, 6, none⟩ = some (.bool false) := (blk_cell BK375.out 6).trans rfl; have hcz16_7 : w15.cell? ⟨gb375, 7, none⟩ = some (.int .i64 0) := (blk_cell BK375.out 7).trans rfl; have hcz16_8 : w15.cell? ⟨gb375, 8, none⟩ = some (.string (⟨#[]⟩ : ByteArray)) := (blk_cell BK375.out 8).trans rfl; have hfz16_0 := blk_frozen BK375.out 0; have hfz16_1 := blk_frozen BK375.out 1; have hfz16_2 := blk_frozen BK375.out 2; have hfz16_3 := blk_frozen BK375.out 3; have hfz16_4 := blk_frozen BK375.out 4; have hfz16_5 := blk_frozen BK375.out 5; have hfz16_6 := blk_frozen BK375.out 6; have hfz16_7 := blk_frozen BK375.out 7; have hfz16_8 := blk_frozen BK375.out 8))
   go_loopg [11] k (fun kq v11 w' => ∃ (x11_1 : Int), v11 = .int .i64 x11_1 ∧ Aside0 (tithebarnlaw24_GroupsTotal.l0 kq t358 a1 t361 t374 x11_1 t365 t366 t367 t368 t369 t370 t371 t372 t373 = some r) ∧ Aside0 (kq ≤ k) ∧ Aside0 (Kd.V (Kd.slice 37 k37) 39 w' w.heap.size (fun k_ => some k_ ≠ (v362 : Value).ownBlock ∧ k_ ≠ gb375) (.slice Ao12 t358.length co12) t358) ∧ Aside0 (Kd.R k49 49 w' w.heap.size (fun _ => True) v362 t361) ∧ Aside0 (w'.heap[gb375]? = some (.cells #[.int .i64 t365, .int .i64 t366, .int .i64 t367, .bool t368, .int .i64 t369, .string t370, .bool t371, .int .i64 t372, .string t373] 47 (0, 0))) ∧ Aside0 (Below w.heap.size w w'))
   case atStart => exact ⟨(0), (by first | rfl | (simp; done) | (simp [*]; done)), H', ⟨Nat.le_refl _⟩, ⟨by (with_reducible repeat (first | apply Kd.V_alloc | apply Kd.V_drewN | apply Kd.V_drew)); exact Kd.V_mono (Kd.V_far (p := ⟨gb375, 8, none⟩) (Kd.V_far (p := ⟨gb375, 7, none⟩) (Kd.V_far (p := ⟨gb375, 6, none⟩) (Kd.V_far (p := ⟨gb375, 5, none⟩) (Kd.V_far (p := ⟨gb375, 4, none⟩) (Kd.V_far (p := ⟨gb375, 3, none⟩) (Kd.V_far (p := ⟨gb375, 2, none⟩) (Kd.V_far (p := ⟨gb375, 1, none⟩) (Kd.V_far (p := ⟨gb375, 0, none⟩) (Kd.V_mono HO360.out (fun k_ hk => (⟨hk, hk.2⟩ : _ ∧ k_ ≠ gb375))) (fun _ hk => hk.2) (.int .i64 t365)) (fun _ hk => hk.2) (.int .i64 t366)) (fun _ hk => hk.2) (.int .i64 t367)) (fun _ hk => hk.2) (.bool t368)) (fun _ hk => hk.2) (.int .i64 t369)) (fun _ hk => hk.2) (.string t370)) (fun _ hk => hk.2) (.bool t371)) (fun _ hk => hk.2) (.int .i64 t372)) (fun _ hk => hk.2) (.string t373)) (fun _ hk => ⟨hk.1.1.2, hk.1.2⟩)⟩, ⟨by (with_reducible repeat (first | apply Kd.R_alloc | apply Kd.R_drewN | apply Kd.R_drew)); exact Kd.R_mono (Kd.R_far (p := ⟨gb375, 8, none⟩) (Kd.R_far (p := ⟨gb375, 7, none⟩) (Kd.R_far (p := ⟨gb375, 6, none⟩) (Kd.R_far (p := ⟨gb375, 5, none⟩) (Kd.R_far (p := ⟨gb375, 4, none⟩) (Kd.R_far (p := ⟨gb375, 3, none⟩) (Kd.R_far (p := ⟨gb375, 2, none⟩) (Kd.R_far (p := ⟨gb375, 1, none⟩) (Kd.R_far (p := ⟨gb375, 0, none⟩) (Kd.R_types HO363.out BK375.out (by decide)) (fun _ hk => hk.2) (.int .i64 t365)) (fun _ hk => hk.2) (.int .i64 t366)) (fun _ hk => hk.2) (.int .i64 t367)) (fun _ hk => hk.2) (.bool t368)) (fun _ hk => hk.2) (.int .i64 t369)) (fun _ hk => hk.2) (.string t370)) (fun _ hk => hk.2) (.bool t371)) (fun _ hk => hk.2) (.int .i64 t372)) (fun _ hk => hk.2) (.string t373)) (fun _ hk => trivial)⟩, ⟨by (with_reducible repeat (first | refine blk_drewN ?_ _ | refine blk_drew ?_ | refine blk_alloc ?_ _)); refine blk_put (cs := #[.int .i64 t365, .int .i64 t366, .int .i64 t367, .bool t368, .int .i64 t369, .string t370, .bool t371, .int .i64 t372, .string (⟨#[]⟩ : ByteArray)]) ?_ 8 _ rfl; (with_reducible repeat (first | refine blk_drewN ?_ _ | refine blk_drew ?_ | refine blk_alloc ?_ _)); refine blk_put (cs := #[.int .i64 t365, .int .i64 t366, .int .i64 t367, .bool t368, .int .i64 t369, .string t370, .bool t371, .int .i64 0, .string (⟨#[]⟩ : ByteArray)]) ?_ 7 _ rfl; (with_reducible repeat (first | refine blk_drewN ?_ _ | refine blk_drew ?_ | refine blk_alloc ?_ _)); refine blk_put (cs := #[.int .i64 t365, .int .i64 t366, .int .i64 t367, .bool t368, .int .i64 t369, .string t370, .bool false, .int .i64 0, .string (⟨#[]⟩ : ByteArray)]) ?_ 6 _ rfl; (with_reducible repeat (first | refine blk_drewN ?_ _ | refine blk_drew ?_ | refine blk_alloc ?_ _)); refine blk_put (cs := #[.int .i64 t365, .int .i64 t366, .int .i64 t367, .bool t368, .int .i64 t369, .string (⟨#[]⟩ : ByteArray), .bool false, .int .i64 0, .string (⟨#[]⟩ : ByteArray)]) ?_ 5 _ rfl; (with_reducible repeat (first | refine blk_drewN ?_ _ | refine blk_drew ?_ | refine blk_alloc ?_ _)); refine blk_put (cs := #[.int .i64 t365, .int .i64 t366, .int .i64 t367, .bool t368, .int .i64 0, .string (⟨#[]⟩ : ByteArray), .bool false, .int .i64 0, .string (⟨#[]⟩ : ByteArray)]) ?_ 4 _ rfl; (with_reducible repeat (first | refine blk_drewN ?_ _ | refine blk_drew ?_ | refine blk_alloc ?_ _)); refine blk_put (cs := #[.int .i64 t365, .int .i64 t366, .int .i64 t367, .bool false, .int .i64 0, .string (⟨#[]⟩ : ByteArray), .bool false, .int .i64 0, .string (⟨#[]⟩ : ByteArray)]) ?_ 3 _ rfl; (with_reducible repeat (first | refine blk_drewN ?_ _ | refine blk_drew ?_ | refine blk_alloc ?_ _)); refine blk_put (cs := #[.int .i64 t365, .int .i64 t366, .int .i64 0, .bool false, .int .i64 0, .string (⟨#[]⟩ : ByteArray), .bool false, .int .i64 0, .string (⟨#[]⟩ : ByteArray)]) ?_ 2 _ rfl; (with_reducible repeat (first | refine blk_drewN ?_ _ | refine blk_drew ?_ | refine blk_alloc ?_ _)); refine blk_put (cs := #[.int .i64 t365, .int .i64 0, .int .i64 0, .bool false, .int .i64 0, .string (⟨#[]⟩ : ByteArray), .bool false, .int .i64 0, .string (⟨#[]⟩ : ByteArray)]) ?_ 1 _ rfl; (with_reducible repeat (first | refine blk_drewN ?_ _ | refine blk_drew ?_ | refine blk_alloc ?_ _)); refine blk_put (cs := #[.int .i64 0, .int .i64 0, .int .i64 0, .bool false, .int .i64 0, .string (⟨#[]⟩ : ByteArray), .bool false, .int .i64 0, .string (⟨#[]⟩ : ByteArray)]) ?_ 0 _ rfl; (with_reducible repeat (first | refine blk_drewN ?_ _ | refine blk_drew ?_ | refine blk_alloc ?_ _)); exact BK375.out⟩, ⟨by repeat (first | (with_reducible first | exact HB.out | apply below_alloc | apply pw_below_drewN | apply below_drew1 | refine below_set ?_ GE375.out) | exact HB.out)⟩⟩
   case round =>
    clear H'
    try clear c1
    try clear c2
    try clear p2
    try clear c3
    try clear c5
    try clear c9
    try clear c9b0
    try clear c9b1
    try clear c11
    try clear hcz16_0
    try clear hcz16_1
    try clear hcz16_2
    try clear hcz16_3
    try clear hcz16_4
    try clear hcz16_5
    try clear hcz16_6
    try clear hcz16_7
    try clear hcz16_8
    try clear hfz16_0
    try clear hfz16_1
    try clear hfz16_2
    try clear hfz16_3
    try clear hfz16_4
    try clear hfz16_5
    try clear hfz16_6
    try clear hfz16_7
    try clear hfz16_8
    obtain ⟨x11_1, rfl, HA, HK1, HO_0, HO_7, BK375, HB⟩ := hrel
    cases gk with
    | zero => exact absurd HA.out (by simp [tithebarnlaw24_GroupsTotal.l0])
    | succ k1 =>
     have H := HA.out
     clear HA
     simp only [tithebarnlaw24_GroupsTotal.l0] at H
     by_cases c17 : x11_1 < (t361.length : Int)
     ·rw [if_pos c17] at H
      have c17b0 : decide (x11_1 < (t361.length : Int)) = true := decide_eq_true c17
      clear c17
      have H' := Aside0.mk H
      clear H
      obtain ⟨Ao18, co18, eo18⟩ := Kd.R_slice HO_7.out
      subst eo18
      go_wp2
      go_loopg [12, 13] k1 (fun kq v12 v13 w' => ∃ (x12_2 : Int) (x13_2 : Int), v12 = .int .i64 x12_2 ∧ v13 = .int .i64 x13_2 ∧ Aside0 (tithebarnlaw24_GroupsTotal.l1 kq t358 a1 t361 t374 x11_1 x12_2 x13_2 t365 t366 t367 t368 t369 t370 t371 t372 t373 = some r) ∧ Aside0 (kq ≤ k1) ∧ Aside0 (Kd.V (Kd.slice 37 k37) 39 w' w.heap.size (fun k_ => some k_ ≠ ((.slice Ao18 t361.length co18) : Value).ownBlock ∧ k_ ≠ gb375) (.slice Ao12 t358.length co12) t358) ∧ Aside0 (Kd.R k49 49 w' w.heap.size (fun _ => True) (.slice Ao18 t361.length co18) t361) ∧ Aside0 (w'.heap[gb375]? = some (.cells #[.int .i64 t365, .int .i64 t366, .int .i64 t367, .bool t368, .int .i64 t369, .string t370, .bool t371, .int .i64 t372, .string t373] 47 (0, 0))) ∧ Aside0 (Below w.heap.size w w'))
      case atStart => exact ⟨(0), (0), (by first | rfl | (simp; done) | (simp [*]; done)), (by first | rfl | (simp; done) | (simp [*]; done)), H', ⟨Nat.le_refl _⟩, ⟨by (with_reducible repeat (first | apply Kd.V_alloc | apply Kd.V_drewN | apply Kd.V_drew)); exact HO_0.out⟩, ⟨by (with_reducible repeat (first | apply Kd.R_alloc | apply Kd.R_drewN | apply Kd.R_drew)); exact HO_7.out⟩, ⟨by (with_reducible repeat (first | refine blk_drewN ?_ _ | refine blk_drew ?_ | refine blk_alloc ?_ _)); exact BK375.out⟩, ⟨by repeat (first | (with_reducible first | exact HB.out | apply below_alloc | apply pw_below_drewN | apply below_drew1 | refine below_set ?_ GE375.out) | exact HB.out)⟩⟩
      case round =>
       clear H'
       try clear c1
       try clear c2
       try clear p2
       try clear c3
       try clear c5
       try clear c9
       try clear c9b0
       try clear c9b1
       try clear c11
       try clear c17
       try clear c17b0
       try clear hcz16_0
       try clear hcz16_1
       try clear hcz16_2
       try clear hcz16_3
       try clear hcz16_4
       try clear hcz16_5
       try clear hcz16_6
       try clear hcz16_7
       try clear hcz16_8
       try clear hfz16_0
       try clear hfz16_1
       try clear hfz16_2
       try clear hfz16_3
       try clear hfz16_4
       try clear hfz16_5
       try clear hfz16_6
       try clear hfz16_7
       try clear hfz16_8
       try clear p2
       obtain ⟨x12_2, x13_2, rfl, rfl, HA, HK2, HO_0, HO_7, BK375, HB⟩ := hrel
       cases gk with
       | zero => exact absurd HA.out (by simp [tithebarnlaw24_GroupsTotal.l1])
       | succ k2 =>
        have H := HA.out
        clear HA
        simp only [tithebarnlaw24_GroupsTotal.l1] at H
        by_cases c19 : x13_2 < (t358.length : Int)
        ·rw [if_pos c19] at H
         have c19b0 : decide (x13_2 < (t358.length : Int)) = true := decide_eq_true c19
         clear c19
         by_cases c20 : 0 ≤ x13_2
         ·rw [if_pos c20] at H
          have c20b0 : decide (0 ≤ x13_2) = true := decide_eq_true c20
          clear c20
          by_cases c21 : 0 ≤ a1
          ·rw [if_pos c21] at H
           have c21b0 : decide (0 ≤ a1) = true := decide_eq_true c21
           clear c21
           by_cases c22 : a1 < ((rd_L7 t358 x13_2).length : Int)
           ·rw [if_pos c22] at H
            have c22b0 : decide (a1 < ((rd_L7 t358 x13_2).length : Int)) = true := decide_eq_true c22
            clear c22
            by_cases c23 : 0 ≤ x11_1
            ·rw [if_pos c23] at H
             have c23b0 : decide (0 ≤ x11_1) = true := decide_eq_true c23
             clear c23
             by_cases c24 : x11_1 < (t361.length : Int)
             ·rw [if_pos c24] at H
              have c24b0 : decide (x11_1 < (t361.length : Int)) = true := decide_eq_true c24
              clear c24
              replace H := Option.bind_eq_some_iff.mp H
              obtain ⟨t389, A250, H⟩ := H
              replace H : (if t389 = 0 then (tithebarnlaw24_GroupsTotal.l1 k2 t358 a1 t361 t374 x11_1 (wrap64 (x12_2 + 1)) (wrap64 (x13_2 + 1)) t365 t366 t367 t368 t369 t370 t371 t372 t373) else (tithebarnlaw24_GroupsTotal.l1 k2 t358 a1 t361 t374 x11_1 x12_2 (wrap64 (x13_2 + 1)) t365 t366 t367 t368 t369 t370 t371 t372 t373)) = some r := H
              have A25 := Aside0.mk A250
              clear A250
              by_cases c26 : t389 = 0
              ·rw [if_pos c26] at H
               have c26b0 : (t389 == 0) = true := beq_iff_eq.mpr c26
               have c26b1 : (t389 != 0) = false := bne_eq_false_iff_eq.mpr c26
               clear c26
               have H' := Aside0.mk H
               clear H
               try go_wp2
               have n0_ := Aside0.mk (Kd.V_drew HO_0.out)
               have n1_ := Aside0.mk (Kd.R_drew HO_7.out)
               have n2_ := Aside0.mk (blk_drew BK375.out)
               have n3_ := Aside0.mk (below_drew1 HB.out)
               clear HO_0
               clear HO_7
               clear BK375
               clear HB
               have HO_0 := n0_
               have HO_7 := n1_
               have BK375 := n2_
               have HB := n3_
               clear n0_ n1_ n2_ n3_
               have p386 : 0 ≤ (x13_2 : Int) := of_decide_eq_true (by first | (with_reducible assumption) | assumption)
               have q386 : x13_2 < (t358.length : Int) := of_decide_eq_true (by first | (with_reducible assumption) | assumption)
               obtain ⟨ad386, A386_0, c386_0, e386, hx386_0, hl386_0, hi386_0⟩ := at_L7 (Kd.V_reads' HO_0.out).2.2 x13_2 p386 q386
               cases e386
               obtain ⟨ce386, hce386, hMe386, hcc386⟩ := Kd.V_get HO_0.out [] x13_2 p386 (by first | exact q386 | exact of_decide_eq_true (by first | (with_reducible assumption) | assumption) | (have e_ := (Kd.V_reads' HO_0.out).1; omega))
               obtain ⟨ua386_0, uc386_0, rfl, ul386_0, ge386_0⟩ := Kd.FK_slice_open hMe386
               have hv386_0 := hcc386 0 _ rfl
               rw [Nat.add_zero, show ((Kd.slice 37 k37)).sz = 1 from rfl, Nat.mul_one] at hv386_0
               replace hv386_0 := Option.some.inj (hv386_0.symm.trans hx386_0)
               injection hv386_0 with hva_ hvn_ hvc_
               rw [hva_] at ge386_0
               rw [hvc_] at ul386_0
               have HL386_0 := Aside0.mk (show Kd.V k37 37 _ w.heap.size _ _ (rd_L7 t358 x13_2) from Kd.V_mk ul386_0 ge386_0)
               clear hva_ hvn_ hvc_ ge386_0 ul386_0
               clear hcc386 hce386
               have HR386_0 := Aside0.mk hi386_0
               have HC386_0 := Aside0.mk hl386_0
               clear hi386_0 hl386_0
               replace p386 := eq_true p386
               replace q386 := eq_true q386
               have p387 : 0 ≤ (a1 : Int) := of_decide_eq_true (by first | (with_reducible assumption) | assumption)
               have q387 : a1 < ((rd_L7 t358 x13_2).length : Int) := of_decide_eq_true (by first | (with_reducible assumption) | assumption)
               obtain ⟨ad387, e387, hx387_0, hx387_1, hx387_2⟩ := at_T37 (by repeat (first | (with_reducible exact HR386_0.out) | (with_reducible refine Kd.C_alloc ?_ _) | (with_reducible refine Kd.C_drewN ?_ _) | (with_reducible refine Kd.C_drew ?_) | exact HR386_0.out)) a1 p387 q387
               cases e387
               replace p387 := eq_true p387
               replace q387 := eq_true q387
               have p388 : 0 ≤ (x11_1 : Int) := of_decide_eq_true (by first | (with_reducible assumption) | assumption)
               have q388 : x11_1 < (t361.length : Int) := of_decide_eq_true (by first | (with_reducible assumption) | assumption)
               obtain ⟨ad388, e388, hx388_0, hx388_1, hx388_2, hx388_3, hx388_4, hx388_5, hx388_6, hx388_7, hx388_8, hx388_9, hx388_10, hx388_11⟩ := at_T49 (Kd.R_reads' HO_7.out).2.2 x11_1 p388 q388
               cases e388
               replace p388 := eq_true p388
               replace q388 := eq_true q388
               refine start_ (n := 14) (S := fun w' => w'.cell? (ad386.add (x13_2).toNat) = some (.slice (some ad387) (rd_L7 t358 x13_2).length c386_0) ∧ w'.cell? (ad387.add ((a1).toNat * 3)) = some (.bool ((rd_T37 (rd_L7 t358 x13_2) a1).f0)) ∧ w'.cell? ⟨(ad387.add ((a1).toNat * 3)).block, (ad387.add ((a1).toNat * 3)).off + 1, none⟩ = some (.int .i64 ((rd_T37 (rd_L7 t358 x13_2) a1).f1)) ∧ w'.cell? ⟨(ad387.add ((a1).toNat * 3)).block, (ad387.add ((a1).toNat * 3)).off + 2, none⟩ = some (.string ((rd_T37 (rd_L7 t358 x13_2) a1).f2)) ∧ w'.cell? (ad388.add ((x11_1).toNat * 12)) = some (.bool ((rd_T49 t361 x11_1).f0.f0)) ∧ w'.cell? ⟨(ad388.add ((x11_1).toNat * 12)).block, (ad388.add ((x11_1).toNat * 12)).off + 1, none⟩ = some (.int .i64 ((rd_T49 t361 x11_1).f0.f1)) ∧ w'.cell? ⟨(ad388.add ((x11_1).toNat * 12)).block, (ad388.add ((x11_1).toNat * 12)).off + 2, none⟩ = some (.string ((rd_T49 t361 x11_1).f0.f2)) ∧ w'.cell? ⟨(ad388.add ((x11_1).toNat * 12)).block, (ad388.add ((x11_1).toNat * 12)).off + 3, none⟩ = some (.int .i64 ((rd_T49 t361 x11_1).f1.f0)) ∧ w'.cell? ⟨(ad388.add ((x11_1).toNat * 12)).block, (ad388.add ((x11_1).toNat * 12)).off + 4, none⟩ = some (.int .i64 ((rd_T49 t361 x11_1).f1.f1)) ∧ w'.cell? ⟨(ad388.add ((x11_1).toNat * 12)).block, (ad388.add ((x11_1).toNat * 12)).off + 5, none⟩ = some (.int .i64 ((rd_T49 t361 x11_1).f1.f2)) ∧ w'.cell? ⟨(ad388.add ((x11_1).toNat * 12)).block, (ad388.add ((x11_1).toNat * 12)).off + 6, none⟩ = some (.bool ((rd_T49 t361 x11_1).f1.f3.f0)) ∧ w'.cell? ⟨(ad388.add ((x11_1).toNat * 12)).block, (ad388.add ((x11_1).toNat * 12)).off + 7, none⟩ = some (.int .i64 ((rd_T49 t361 x11_1).f1.f3.f1)) ∧ w'.cell? ⟨(ad388.add ((x11_1).toNat * 12)).block, (ad388.add ((x11_1).toNat * 12)).off + 8, none⟩ = some (.string ((rd_T49 t361 x11_1).f1.f3.f2)) ∧ w'.cell? ⟨(ad388.add ((x11_1).toNat * 12)).block, (ad388.add ((x11_1).toNat * 12)).off + 9, none⟩ = some (.bool ((rd_T49 t361 x11_1).f1.f4.f0)) ∧ w'.cell? ⟨(ad388.add ((x11_1).toNat * 12)).block, (ad388.add ((x11_1).toNat * 12)).off + 10, none⟩ = some (.int .i64 ((rd_T49 t361 x11_1).f1.f4.f1)) ∧ w'.cell? ⟨(ad388.add ((x11_1).toNat * 12)).block, (ad388.add ((x11_1).toNat * 12)).off + 11, none⟩ = some (.string ((rd_T49 t361 x11_1).f1.f4.f2))) (ds := []) #[false, false, false, false, false, false, false, false, false, false, false, false, false, false] (by kernel_rfl) rfl rfl ⟨hx386_0, hx387_0, hx387_1, hx387_2, hx388_0, hx388_1, hx388_2, hx388_3, hx388_4, hx388_5, hx388_6, hx388_7, hx388_8, hx388_9, hx388_10, hx388_11⟩ (fun hHeld => ?_); refine with_tabW tithebarnlaw24_GroupsTotal.tab15 tithebarnlaw24_GroupsTotal.bits15 (fun HT_ HW_ => ?_)
               generalize wr.drew = w27 at HO_0 HO_7 BK375 HB HL386_0 HR386_0 hx386_0 hx387_0 hx387_1 hx387_2 hx388_0 hx388_1 hx388_10 hx388_11 hx388_2 hx388_3 hx388_4 hx388_5 hx388_6 hx388_7 hx388_8 hx388_9 hHeld ⊢
               refine pure_ (i := 0) (N := some 48) (v := ?_) (a' := ?_) #[true, false, false, false, false, false, false, false, false, false, false, false, false, false] rfl rfl (any_of HT_.out (by kernel_rfl)) (fun _ _ _ h => h) (Or.inl ⟨by rfl, ?_⟩) ?_ ?_
               rotate_left
               ·intro w'
                go_simp
                with_reducible rfl
               rotate_left
               ·simp only [Act.put, List.setIfInBounds_toArray, List.set_cons_zero, List.set_cons_succ, i64_w, i32_w]
                rfl
               refine pure_ (i := 1) (N := some 49) (v := ?_) (a' := ?_) #[true, true, false, false, false, false, false, false, false, false, false, false, false, false] rfl rfl (any_of HT_.out (by kernel_rfl)) (fun _ _ _ h => h) (Or.inl ⟨by rfl, ?_⟩) ?_ ?_
               rotate_left
               ·intro w'
                go_simp
                with_reducible rfl
               rotate_left
               ·simp only [Act.put, List.setIfInBounds_toArray, List.set_cons_zero, List.set_cons_succ, i64_w, i32_w]
                rfl
               refine pure_ (i := 2) (N := some 50) (v := ?_) (a' := ?_) #[true, true, true, false, false, false, false, false, false, false, false, false, false, false] rfl rfl (any_of HT_.out (by kernel_rfl)) (fun _ _ _ h => h) (Or.inl ⟨by rfl, ?_⟩) ?_ ?_
               rotate_left
               ·intro w'
                go_simp
                with_reducible rfl
               rotate_left
               ·simp only [Act.put, List.setIfInBounds_toArray, List.set_cons_zero, List.set_cons_succ, i64_w, i32_w]
                rfl
               refine pure_ (i := 4) (N := some 52) (v := ?_) (a' := ?_) #[true, true, true, false, true, false, false, false, false, false, false, false, false, false] rfl rfl (any_of HT_.out (by kernel_rfl)) (fun _ _ _ h => h) (Or.inl ⟨by rfl, ?_⟩) ?_ ?_
               rotate_left
               ·intro w'
                go_simp
                with_reducible rfl
               rotate_left
               ·simp only [Act.put, List.setIfInBounds_toArray, List.set_cons_zero, List.set_cons_succ, i64_w, i32_w]
                rfl
               refine pure_ (i := 7) (N := some 55) (v := ?_) (a' := ?_) #[true, true, true, false, true, false, false, true, false, false, false, false, false, false] rfl rfl (any_of HT_.out (by kernel_rfl)) (fun _ _ _ h => h) (Or.inl ⟨by rfl, ?_⟩) ?_ ?_
               rotate_left
               ·intro w'
                go_simp
                with_reducible rfl
               rotate_left
               ·simp only [Act.put, List.setIfInBounds_toArray, List.set_cons_zero, List.set_cons_succ, i64_w, i32_w]
                rfl
               refine pure_ (i := 8) (N := some 56) (v := ?_) (a' := ?_) #[true, true, true, false, true, false, false, true, true, false, false, false, false, false] rfl rfl (any_of HT_.out (by kernel_rfl)) (fun _ _ _ h => h) (Or.inl ⟨by rfl, ?_⟩) ?_ ?_
               rotate_left
               ·intro w'
                go_simp
                with_reducible rfl
               rotate_left
               ·simp only [Act.put, List.setIfInBounds_toArray, List.set_cons_zero, List.set_cons_succ, i64_w, i32_w]
                rfl
               refine pure_ (i := 9) (N := some 57) (v := ?_) (a' := ?_) #[true, true, true, false, true, false, false, true, true, true, false, false, false, false] rfl rfl (any_of HT_.out (by kernel_rfl)) (fun _ _ _ h => h) (Or.inl ⟨by rfl, ?_⟩) ?_ ?_
               rotate_left
               ·intro w'
                go_simp
                with_reducible rfl
               rotate_left
               ·simp only [Act.put, List.setIfInBounds_toArray, List.set_cons_zero, List.set_cons_succ, i64_w, i32_w]
                rfl
               refine pure_ (i := 10) (N := some 58) (v := ?_) (a' := ?_) #[true, true, true, false, true, false, false, true, true, true, true, false, false, false] rfl rfl (any_of HT_.out (by kernel_rfl)) (fun _ _ _ h => h) (Or.inl ⟨by rfl, ?_⟩) ?_ ?_
               rotate_left
               ·intro w'
                go_simp
                with_reducible rfl
               rotate_left
               ·simp only [Act.put, List.setIfInBounds_toArray, List.set_cons_zero, List.set_cons_succ, i64_w, i32_w]
                rfl
               refine take_ (i := 3) (N := some 51) (v := ?_) (a' := ?_) #[true, true, true, true, true, false, false, true, true, true, true, false, false, false] rfl rfl (take_ofW HT_.out HW_.out (by kernel_rfl)) (fun _ _ _ h => h) (Or.inl ⟨by rfl, ?_⟩) hHeld ?_ ?_
               rotate_left
               ·rintro w' ⟨s0, s1, s2, s3, s4, s5, s6, s7, s8, s9, s10, s11, s12, s13, s14, s15⟩
                go_simp
                with_reducible rfl
               rotate_left
               ·simp only [Act.put, List.setIfInBounds_toArray, List.set_cons_zero, List.set_cons_succ, i64_w, i32_w]
                rfl
               refine pure_ (i := 5) (N := some 53) (v := ?_) (a' := ?_) #[true, true, true, true, true, true, false, true, true, true, true, false, false, false] rfl rfl (any_of HT_.out (by kernel_rfl)) (fun _ _ _ h => h) (Or.inl ⟨by rfl, ?_⟩) ?_ ?_
               rotate_left
               ·intro w'
                go_simp
                with_reducible rfl
               rotate_left
               ·simp only [Act.put, List.setIfInBounds_toArray, List.set_cons_zero, List.set_cons_succ, i64_w, i32_w]
                rfl
               refine take_ (i := 6) (N := some 54) (v := ?_) (a' := ?_) #[true, true, true, true, true, true, true, true, true, true, true, false, false, false] rfl rfl (take_ofW HT_.out HW_.out (by kernel_rfl)) (fun _ _ _ h => h) (Or.inl ⟨by rfl, ?_⟩) hHeld ?_ ?_
               rotate_left
               ·rintro w' ⟨s0, s1, s2, s3, s4, s5, s6, s7, s8, s9, s10, s11, s12, s13, s14, s15⟩
                go_simp
                with_reducible rfl
               rotate_left
               ·simp only [Act.put, List.setIfInBounds_toArray, List.set_cons_zero, List.set_cons_succ, i64_w, i32_w]
                rfl
               refine take_ (i := 11) (N := some 59) (v := ?_) (a' := ?_) #[true, true, true, true, true, true, true, true, true, true, true, true, false, false] rfl rfl (take_ofW HT_.out HW_.out (by kernel_rfl)) (fun _ _ _ h => h) (Or.inl ⟨by rfl, ?_⟩) hHeld ?_ ?_
               rotate_left
               ·rintro w' ⟨s0, s1, s2, s3, s4, s5, s6, s7, s8, s9, s10, s11, s12, s13, s14, s15⟩
                go_simp
                with_reducible rfl
               rotate_left
               ·simp only [Act.put, List.setIfInBounds_toArray, List.set_cons_zero, List.set_cons_succ, i64_w, i32_w]
                rfl
               refine one_ (i := 12) (N := some 60) #[true, true, true, true, true, true, true, true, true, true, true, true, true, false] rfl rfl (one_of HT_.out (by kernel_rfl)) (by decide) (fun K hK => ?_)
               refine goes_ Try.func33 (by kernel_rfl) rfl #[.agg #[.bool ((rd_T37 (rd_L7 t358 x13_2) a1).f0), .int .i64 ((rd_T37 (rd_L7 t358 x13_2) a1).f1), .string ((rd_T37 (rd_L7 t358 x13_2) a1).f2)], .agg #[.bool ((rd_T49 t361 x11_1).f0.f0), .int .i64 ((rd_T49 t361 x11_1).f0.f1), .string ((rd_T49 t361 x11_1).f0.f2)]] (by rfl) rfl rfl (by (try simp only [List.map_toArray, List.map_cons, List.map_nil]); first | done | rfl | (simp only [List.length_drop, List.length_take]; rfl)) ?_
               with_reducible refine (tithebarnref02_Compare_c.calls ((rd_T37 (rd_L7 t358 x13_2) a1).f0) ((rd_T37 (rd_L7 t358 x13_2) a1).f1) ((rd_T37 (rd_L7 t358 x13_2) a1).f2) ((rd_T49 t361 x11_1).f0.f0) ((rd_T49 t361 x11_1).f0.f1) ((rd_T49 t361 x11_1).f0.f2) t389 _ A25.out).mono ?_
               rintro e w28 ⟨rfl, hb⟩
               have HS0_ := (hb.cell (World.block_lt_of_cell? _ _ (hHeld.1))).trans (hHeld.1)
               have HS1_ := (hb.cell (World.block_lt_of_cell? _ _ (hHeld.2.1))).trans (hHeld.2.1)
               have HS2_ := (hb.cell (World.block_lt_of_cell? _ _ (hHeld.2.2.1))).trans (hHeld.2.2.1)
               have HS3_ := (hb.cell (World.block_lt_of_cell? _ _ (hHeld.2.2.2.1))).trans (hHeld.2.2.2.1)
               have HS4_ := (hb.cell (World.block_lt_of_cell? _ _ (hHeld.2.2.2.2.1))).trans (hHeld.2.2.2.2.1)
               have HS5_ := (hb.cell (World.block_lt_of_cell? _ _ (hHeld.2.2.2.2.2.1))).trans (hHeld.2.2.2.2.2.1)
               have HS6_ := (hb.cell (World.block_lt_of_cell? _ _ (hHeld.2.2.2.2.2.2.1))).trans (hHeld.2.2.2.2.2.2.1)
               have HS7_ := (hb.cell (World.block_lt_of_cell? _ _ (hHeld.2.2.2.2.2.2.2.1))).trans (hHeld.2.2.2.2.2.2.2.1)
               have HS8_ := (hb.cell (World.block_lt_of_cell? _ _ (hHeld.2.2.2.2.2.2.2.2.1))).trans (hHeld.2.2.2.2.2.2.2.2.1)
               have HS9_ := (hb.cell (World.block_lt_of_cell? _ _ (hHeld.2.2.2.2.2.2.2.2.2.1))).trans (hHeld.2.2.2.2.2.2.2.2.2.1)
               have HS10_ := (hb.cell (World.block_lt_of_cell? _ _ (hHeld.2.2.2.2.2.2.2.2.2.2.1))).trans (hHeld.2.2.2.2.2.2.2.2.2.2.1)
               have HS11_ := (hb.cell (World.block_lt_of_cell? _ _ (hHeld.2.2.2.2.2.2.2.2.2.2.2.1))).trans (hHeld.2.2.2.2.2.2.2.2.2.2.2.1)
               have HS12_ := (hb.cell (World.block_lt_of_cell? _ _ (hHeld.2.2.2.2.2.2.2.2.2.2.2.2.1))).trans (hHeld.2.2.2.2.2.2.2.2.2.2.2.2.1)
               have HS13_ := (hb.cell (World.block_lt_of_cell? _ _ (hHeld.2.2.2.2.2.2.2.2.2.2.2.2.2.1))).trans (hHeld.2.2.2.2.2.2.2.2.2.2.2.2.2.1)
               have HS14_ := (hb.cell (World.block_lt_of_cell? _ _ (hHeld.2.2.2.2.2.2.2.2.2.2.2.2.2.2.1))).trans (hHeld.2.2.2.2.2.2.2.2.2.2.2.2.2.2.1)
               have HS15_ := (hb.cell (World.block_lt_of_cell? _ _ (hHeld.2.2.2.2.2.2.2.2.2.2.2.2.2.2.2))).trans (hHeld.2.2.2.2.2.2.2.2.2.2.2.2.2.2.2)
               refine ⟨_, rfl, ?_⟩
               have n0_ := Aside0.mk (Kd.V_below (by (with_reducible repeat (first | apply Kd.V_alloc | apply Kd.V_drewN | apply Kd.V_drew)); exact HO_0.out) hb)
               have n1_ := Aside0.mk (Kd.R_below (by (with_reducible repeat (first | apply Kd.R_alloc | apply Kd.R_drewN | apply Kd.R_drew)); exact HO_7.out) hb)
               have n2_ := Aside0.mk (Kd.V_below (by (with_reducible repeat (first | apply Kd.V_alloc | apply Kd.V_drewN | apply Kd.V_drew)); exact HL386_0.out) hb)
               have n3_ := Aside0.mk (blk_below (g := gb375) (o := .cells #[.int .i64 t365, .int .i64 t366, .int .i64 t367, .bool t368, .int .i64 t369, .string t370, .bool t371, .int .i64 t372, .string t373] 47 (0, 0)) (by (with_reducible repeat (first | refine blk_drewN ?_ _ | refine blk_drew ?_ | refine blk_alloc ?_ _)); exact BK375.out) hb)
               have n4_ := Aside0.mk (Kd.C_below (by repeat (first | (with_reducible exact HR386_0.out) | (with_reducible refine Kd.C_alloc ?_ _) | (with_reducible refine Kd.C_drewN ?_ _) | (with_reducible refine Kd.C_drew ?_) | exact HR386_0.out)) hb)
               have n5_ := Aside0.mk (below_step (by repeat (first | (with_reducible first | exact HB.out | apply below_alloc | apply pw_below_drewN | apply below_drew1 | refine below_set ?_ GE375.out) | exact HB.out)) hb)
               clear HO_0
               clear HO_7
               clear HL386_0
               clear BK375
               clear HR386_0
               clear HB
               have HO_0 := n0_
               have HO_7 := n1_
               have HL386_0 := n2_
               have BK375 := n3_
               have HR386_0 := n4_
               have HB := n5_
               clear n0_ n1_ n2_ n3_ n4_ n5_
               (try clear hb)
               (try clear hb2)
               (try clear hk)
               (try clear hi)
               refine hK.out _ _ ⟨HS0_, HS1_, HS2_, HS3_, HS4_, HS5_, HS6_, HS7_, HS8_, HS9_, HS10_, HS11_, HS12_, HS13_, HS14_, HS15_⟩ (fun hHeld => ?_)
               clear hK K
               refine norm_ (a' := ?_) ?_ ?_
               rotate_left
               ·show Act.put _ (some 60) _ = _
                simp only [Act.put, List.setIfInBounds_toArray, List.set_cons_zero, List.set_cons_succ, i64_w, i32_w]
                rfl
               refine pure_ (i := 13) (N := some 61) (v := ?_) (a' := ?_) #[true, true, true, true, true, true, true, true, true, true, true, true, true, true] rfl rfl (any_of HT_.out (by kernel_rfl)) (fun _ _ _ h => h) (Or.inl ⟨by rfl, ?_⟩) ?_ ?_
               rotate_left
               ·intro w'
                go_simp
                with_reducible rfl
               rotate_left
               ·simp only [Act.put, List.setIfInBounds_toArray, List.set_cons_zero, List.set_cons_succ, i64_w, i32_w]
                rfl
               refine done_ (done_of HT_.out (by kernel_rfl)) ?_
               try go_wp2
               go_roundg k2
               case measure => have := HK1.out; have := HK2.out; omega
               case rel => exact ⟨(wrap64 (x12_2 + 1)), (wrap64 (x13_2 + 1)), (by first | rfl | (simp; done) | (simp [*]; done)), (by first | rfl | (simp; done) | (simp [*]; done)), H', ⟨by have := HK1.out; have := HK2.out; omega⟩, ⟨by (with_reducible repeat (first | apply Kd.V_alloc | apply Kd.V_drewN | apply Kd.V_drew)); exact HO_0.out⟩, ⟨by (with_reducible repeat (first | apply Kd.R_alloc | apply Kd.R_drewN | apply Kd.R_drew)); exact HO_7.out⟩, ⟨by (with_reducible repeat (first | refine blk_drewN ?_ _ | refine blk_drew ?_ | refine blk_alloc ?_ _)); exact BK375.out⟩, ⟨by repeat (first | (with_reducible first | exact HB.out | apply below_alloc | apply pw_below_drewN | apply below_drew1 | refine below_set ?_ GE375.out) | exact HB.out)⟩⟩
              ·rw [if_neg c26] at H
               have c26b0 : (t389 == 0) = false := beq_eq_false_iff_ne.mpr c26
               have c26b1 : (t389 != 0) = true := bne_iff_ne.mpr c26
               have H' := Aside0.mk H
               clear H
               try go_wp2
               have n0_ := Aside0.mk (Kd.V_drew HO_0.out)
               have n1_ := Aside0.mk (Kd.R_drew HO_7.out)
               have n2_ := Aside0.mk (blk_drew BK375.out)
               have n3_ := Aside0.mk (below_drew1 HB.out)
               clear HO_0
               clear HO_7
               clear BK375
               clear HB
               have HO_0 := n0_
               have HO_7 := n1_
               have BK375 := n2_
               have HB := n3_
               clear n0_ n1_ n2_ n3_
               have p386 : 0 ≤ (x13_2 : Int) := of_decide_eq_true (by first | (with_reducible assumption) | assumption)
               have q386 : x13_2 < (t358.length : Int) := of_decide_eq_true (by first | (with_reducible assumption) | assumption)
               obtain ⟨ad386, A386_0, c386_0, e386, hx386_0, hl386_0, hi386_0⟩ := at_L7 (Kd.V_reads' HO_0.out).2.2 x13_2 p386 q386
               cases e386
               obtain ⟨ce386, hce386, hMe386, hcc386⟩ := Kd.V_get HO_0.out [] x13_2 p386 (by first | exact q386 | exact of_decide_eq_true (by first | (with_reducible assumption) | assumption) | (have e_ := (Kd.V_reads' HO_0.out).1; omega))
               obtain ⟨ua386_0, uc386_0, rfl, ul386_0, ge386_0⟩ := Kd.FK_slice_open hMe386
               have hv386_0 := hcc386 0 _ rfl
               rw [Nat.add_zero, show ((Kd.slice 37 k37)).sz = 1 from rfl, Nat.mul_one] at hv386_0
               replace hv386_0 := Option.some.inj (hv386_0.symm.trans hx386_0)
               injection hv386_0 with hva_ hvn_ hvc_
               rw [hva_] at ge386_0
               rw [hvc_] at ul386_0
               have HL386_0 := Aside0.mk (show Kd.V k37 37 _ w.heap.size _ _ (rd_L7 t358 x13_2) from Kd.V_mk ul386_0 ge386_0)
               clear hva_ hvn_ hvc_ ge386_0 ul386_0
               clear hcc386 hce386
               have HR386_0 := Aside0.mk hi386_0
               have HC386_0 := Aside0.mk hl386_0
               clear hi386_0 hl386_0
               replace p386 := eq_true p386
               replace q386 := eq_true q386
               have p387 : 0 ≤ (a1 : Int) := of_decide_eq_true (by first | (with_reducible assumption) | assumption)
               have q387 : a1 < ((rd_L7 t358 x13_2).length : Int) := of_decide_eq_true (by first | (with_reducible assumption) | assumption)
               obtain ⟨ad387, e387, hx387_0, hx387_1, hx387_2⟩ := at_T37 (by repeat (first | (with_reducible exact HR386_0.out) | (with_reducible refine Kd.C_alloc ?_ _) | (with_reducible refine Kd.C_drewN ?_ _) | (with_reducible refine Kd.C_drew ?_) | exact HR386_0.out)) a1 p387 q387
               cases e387
               replace p387 := eq_true p387
               replace q387 := eq_true q387
               have p388 : 0 ≤ (x11_1 : Int) := of_decide_eq_true (by first | (with_reducible assumption) | assumption)
               have q388 : x11_1 < (t361.length : Int) := of_decide_eq_true (by first | (with_reducible assumption) | assumption)
               obtain ⟨ad388, e388, hx388_0, hx388_1, hx388_2, hx388_3, hx388_4, hx388_5, hx388_6, hx388_7, hx388_8, hx388_9, hx388_10, hx388_11⟩ := at_T49 (Kd.R_reads' HO_7.out).2.2 x11_1 p388 q388
               cases e388
               replace p388 := eq_true p388
               replace q388 := eq_true q388
               refine start_ (n := 14) (S := fun w' => w'.cell? (ad386.add (x13_2).toNat) = some (.slice (some ad387) (rd_L7 t358 x13_2).length c386_0) ∧ w'.cell? (ad387.add ((a1).toNat * 3)) = some (.bool ((rd_T37 (rd_L7 t358 x13_2) a1).f0)) ∧ w'.cell? ⟨(ad387.add ((a1).toNat * 3)).block, (ad387.add ((a1).toNat * 3)).off + 1, none⟩ = some (.int .i64 ((rd_T37 (rd_L7 t358 x13_2) a1).f1)) ∧ w'.cell? ⟨(ad387.add ((a1).toNat * 3)).block, (ad387.add ((a1).toNat * 3)).off + 2, none⟩ = some (.string ((rd_T37 (rd_L7 t358 x13_2) a1).f2)) ∧ w'.cell? (ad388.add ((x11_1).toNat * 12)) = some (.bool ((rd_T49 t361 x11_1).f0.f0)) ∧ w'.cell? ⟨(ad388.add ((x11_1).toNat * 12)).block, (ad388.add ((x11_1).toNat * 12)).off + 1, none⟩ = some (.int .i64 ((rd_T49 t361 x11_1).f0.f1)) ∧ w'.cell? ⟨(ad388.add ((x11_1).toNat * 12)).block, (ad388.add ((x11_1).toNat * 12)).off + 2, none⟩ = some (.string ((rd_T49 t361 x11_1).f0.f2)) ∧ w'.cell? ⟨(ad388.add ((x11_1).toNat * 12)).block, (ad388.add ((x11_1).toNat * 12)).off + 3, none⟩ = some (.int .i64 ((rd_T49 t361 x11_1).f1.f0)) ∧ w'.cell? ⟨(ad388.add ((x11_1).toNat * 12)).block, (ad388.add ((x11_1).toNat * 12)).off + 4, none⟩ = some (.int .i64 ((rd_T49 t361 x11_1).f1.f1)) ∧ w'.cell? ⟨(ad388.add ((x11_1).toNat * 12)).block, (ad388.add ((x11_1).toNat * 12)).off + 5, none⟩ = some (.int .i64 ((rd_T49 t361 x11_1).f1.f2)) ∧ w'.cell? ⟨(ad388.add ((x11_1).toNat * 12)).block, (ad388.add ((x11_1).toNat * 12)).off + 6, none⟩ = some (.bool ((rd_T49 t361 x11_1).f1.f3.f0)) ∧ w'.cell? ⟨(ad388.add ((x11_1).toNat * 12)).block, (ad388.add ((x11_1).toNat * 12)).off + 7, none⟩ = some (.int .i64 ((rd_T49 t361 x11_1).f1.f3.f1)) ∧ w'.cell? ⟨(ad388.add ((x11_1).toNat * 12)).block, (ad388.add ((x11_1).toNat * 12)).off + 8, none⟩ = some (.string ((rd_T49 t361 x11_1).f1.f3.f2)) ∧ w'.cell? ⟨(ad388.add ((x11_1).toNat * 12)).block, (ad388.add ((x11_1).toNat * 12)).off + 9, none⟩ = some (.bool ((rd_T49 t361 x11_1).f1.f4.f0)) ∧ w'.cell? ⟨(ad388.add ((x11_1).toNat * 12)).block, (ad388.add ((x11_1).toNat * 12)).off + 10, none⟩ = some (.int .i64 ((rd_T49 t361 x11_1).f1.f4.f1)) ∧ w'.cell? ⟨(ad388.add ((x11_1).toNat * 12)).block, (ad388.add ((x11_1).toNat * 12)).off + 11, none⟩ = some (.string ((rd_T49 t361 x11_1).f1.f4.f2))) (ds := []) #[false, false, false, false, false, false, false, false, false, false, false, false, false, false] (by kernel_rfl) rfl rfl ⟨hx386_0, hx387_0, hx387_1, hx387_2, hx388_0, hx388_1, hx388_2, hx388_3, hx388_4, hx388_5, hx388_6, hx388_7, hx388_8, hx388_9, hx388_10, hx388_11⟩ (fun hHeld => ?_); refine with_tabW tithebarnlaw24_GroupsTotal.tab15 tithebarnlaw24_GroupsTotal.bits15 (fun HT_ HW_ => ?_)
               generalize wr.drew = w29 at HO_0 HO_7 BK375 HB HL386_0 HR386_0 hx386_0 hx387_0 hx387_1 hx387_2 hx388_0 hx388_1 hx388_10 hx388_11 hx388_2 hx388_3 hx388_4 hx388_5 hx388_6 hx388_7 hx388_8 hx388_9 hHeld ⊢
               refine pure_ (i := 0) (N := some 48) (v := ?_) (a' := ?_) #[true, false, false, false, false, false, false, false, false, false, false, false, false, false] rfl rfl (any_of HT_.out (by kernel_rfl)) (fun _ _ _ h => h) (Or.inl ⟨by rfl, ?_⟩) ?_ ?_
               rotate_left
               ·intro w'
                go_simp
                with_reducible rfl
               rotate_left
               ·simp only [Act.put, List.setIfInBounds_toArray, List.set_cons_zero, List.set_cons_succ, i64_w, i32_w]
                rfl
               refine pure_ (i := 1) (N := some 49) (v := ?_) (a' := ?_) #[true, true, false, false, false, false, false, false, false, false, false, false, false, false] rfl rfl (any_of HT_.out (by kernel_rfl)) (fun _ _ _ h => h) (Or.inl ⟨by rfl, ?_⟩) ?_ ?_
               rotate_left
               ·intro w'
                go_simp
                with_reducible rfl
               rotate_left
               ·simp only [Act.put, List.setIfInBounds_toArray, List.set_cons_zero, List.set_cons_succ, i64_w, i32_w]
                rfl
               refine pure_ (i := 2) (N := some 50) (v := ?_) (a' := ?_) #[true, true, true, false, false, false, false, false, false, false, false, false, false, false] rfl rfl (any_of HT_.out (by kernel_rfl)) (fun _ _ _ h => h) (Or.inl ⟨by rfl, ?_⟩) ?_ ?_
               rotate_left
               ·intro w'
                go_simp
                with_reducible rfl
               rotate_left
               ·simp only [Act.put, List.setIfInBounds_toArray, List.set_cons_zero, List.set_cons_succ, i64_w, i32_w]
                rfl
               refine pure_ (i := 4) (N := some 52) (v := ?_) (a' := ?_) #[true, true, true, false, true, false, false, false, false, false, false, false, false, false] rfl rfl (any_of HT_.out (by kernel_rfl)) (fun _ _ _ h => h) (Or.inl ⟨by rfl, ?_⟩) ?_ ?_
               rotate_left
               ·intro w'
                go_simp
                with_reducible rfl
               rotate_left
               ·simp only [Act.put, List.setIfInBounds_toArray, List.set_cons_zero, List.set_cons_succ, i64_w, i32_w]
                rfl
               refine pure_ (i := 7) (N := some 55) (v := ?_) (a' := ?_) #[true, true, true, false, true, false, false, true, false, false, false, false, false, false] rfl rfl (any_of HT_.out (by kernel_rfl)) (fun _ _ _ h => h) (Or.inl ⟨by rfl, ?_⟩) ?_ ?_
               rotate_left
               ·intro w'
                go_simp
                with_reducible rfl
               rotate_left
               ·simp only [Act.put, List.setIfInBounds_toArray, List.set_cons_zero, List.set_cons_succ, i64_w, i32_w]
                rfl
               refine pure_ (i := 8) (N := some 56) (v := ?_) (a' := ?_) #[true, true, true, false, true, false, false, true, true, false, false, false, false, false] rfl rfl (any_of HT_.out (by kernel_rfl)) (fun _ _ _ h => h) (Or.inl ⟨by rfl, ?_⟩) ?_ ?_
               rotate_left
               ·intro w'
                go_simp
                with_reducible rfl
               rotate_left
               ·simp only [Act.put, List.setIfInBounds_toArray, List.set_cons_zero, List.set_cons_succ, i64_w, i32_w]
                rfl
               refine pure_ (i := 9) (N := some 57) (v := ?_) (a' := ?_) #[true, true, true, false, true, false, false, true, true, true, false, false, false, false] rfl rfl (any_of HT_.out (by kernel_rfl)) (fun _ _ _ h => h) (Or.inl ⟨by rfl, ?_⟩) ?_ ?_
               rotate_left
               ·intro w'
                go_simp
                with_reducible rfl
               rotate_left
               ·simp only [Act.put, List.setIfInBounds_toArray, List.set_cons_zero, List.set_cons_succ, i64_w, i32_w]
                rfl
               refine pure_ (i := 10) (N := some 58) (v := ?_) (a' := ?_) #[true, true, true, false, true, false, false, true, true, true, true, false, false, false] rfl rfl (any_of HT_.out (by kernel_rfl)) (fun _ _ _ h => h) (Or.inl ⟨by rfl, ?_⟩) ?_ ?_
               rotate_left
               ·intro w'
                go_simp
                with_reducible rfl
               rotate_left
               ·simp only [Act.put, List.setIfInBounds_toArray, List.set_cons_zero, List.set_cons_succ, i64_w, i32_w]
                rfl
               refine take_ (i := 3) (N := some 51) (v := ?_) (a' := ?_) #[true, true, true, true, true, false, false, true, true, true, true, false, false, false] rfl rfl (take_ofW HT_.out HW_.out (by kernel_rfl)) (fun _ _ _ h => h) (Or.inl ⟨by rfl, ?_⟩) hHeld ?_ ?_
               rotate_left
               ·rintro w' ⟨s0, s1, s2, s3, s4, s5, s6, s7, s8, s9, s10, s11, s12, s13, s14, s15⟩
                go_simp
                with_reducible rfl
               rotate_left
               ·simp only [Act.put, List.setIfInBounds_toArray, List.set_cons_zero, List.set_cons_succ, i64_w, i32_w]
                rfl
               refine pure_ (i := 5) (N := some 53) (v := ?_) (a' := ?_) #[true, true, true, true, true, true, false, true, true, true, true, false, false, false] rfl rfl (any_of HT_.out (by kernel_rfl)) (fun _ _ _ h => h) (Or.inl ⟨by rfl, ?_⟩) ?_ ?_
               rotate_left
               ·intro w'
                go_simp
                with_reducible rfl
               rotate_left
               ·simp only [Act.put, List.setIfInBounds_toArray, List.set_cons_zero, List.set_cons_succ, i64_w, i32_w]
                rfl
               refine take_ (i := 6) (N := some 54) (v := ?_) (a' := ?_) #[true, true, true, true, true, true, true, true, true, true, true, false, false, false] rfl rfl (take_ofW HT_.out HW_.out (by kernel_rfl)) (fun _ _ _ h => h) (Or.inl ⟨by rfl, ?_⟩) hHeld ?_ ?_
               rotate_left
               ·rintro w' ⟨s0, s1, s2, s3, s4, s5, s6, s7, s8, s9, s10, s11, s12, s13, s14, s15⟩
                go_simp
                with_reducible rfl
               rotate_left
               ·simp only [Act.put, List.setIfInBounds_toArray, List.set_cons_zero, List.set_cons_succ, i64_w, i32_w]
                rfl
               refine take_ (i := 11) (N := some 59) (v := ?_) (a' := ?_) #[true, true, true, true, true, true, true, true, true, true, true, true, false, false] rfl rfl (take_ofW HT_.out HW_.out (by kernel_rfl)) (fun _ _ _ h => h) (Or.inl ⟨by rfl, ?_⟩) hHeld ?_ ?_
               rotate_left
               ·rintro w' ⟨s0, s1, s2, s3, s4, s5, s6, s7, s8, s9, s10, s11, s12, s13, s14, s15⟩
                go_simp
                with_reducible rfl
               rotate_left
               ·simp only [Act.put, List.setIfInBounds_toArray, List.set_cons_zero, List.set_cons_succ, i64_w, i32_w]
                rfl
               refine one_ (i := 12) (N := some 60) #[true, true, true, true, true, true, true, true, true, true, true, true, true, false] rfl rfl (one_of HT_.out (by kernel_rfl)) (by decide) (fun K hK => ?_)
               refine goes_ Try.func33 (by kernel_rfl) rfl #[.agg #[.bool ((rd_T37 (rd_L7 t358 x13_2) a1).f0), .int .i64 ((rd_T37 (rd_L7 t358 x13_2) a1).f1), .string ((rd_T37 (rd_L7 t358 x13_2) a1).f2)], .agg #[.bool ((rd_T49 t361 x11_1).f0.f0), .int .i64 ((rd_T49 t361 x11_1).f0.f1), .string ((rd_T49 t361 x11_1).f0.f2)]] (by rfl) rfl rfl (by (try simp only [List.map_toArray, List.map_cons, List.map_nil]); first | done | rfl | (simp only [List.length_drop, List.length_take]; rfl)) ?_
               with_reducible refine (tithebarnref02_Compare_c.calls ((rd_T37 (rd_L7 t358 x13_2) a1).f0) ((rd_T37 (rd_L7 t358 x13_2) a1).f1) ((rd_T37 (rd_L7 t358 x13_2) a1).f2) ((rd_T49 t361 x11_1).f0.f0) ((rd_T49 t361 x11_1).f0.f1) ((rd_T49 t361 x11_1).f0.f2) t389 _ A25.out).mono ?_
               rintro e w30 ⟨rfl, hb⟩
               have HS0_ := (hb.cell (World.block_lt_of_cell? _ _ (hHeld.1))).trans (hHeld.1)
               have HS1_ := (hb.cell (World.block_lt_of_cell? _ _ (hHeld.2.1))).trans (hHeld.2.1)
               have HS2_ := (hb.cell (World.block_lt_of_cell? _ _ (hHeld.2.2.1))).trans (hHeld.2.2.1)
               have HS3_ := (hb.cell (World.block_lt_of_cell? _ _ (hHeld.2.2.2.1))).trans (hHeld.2.2.2.1)
               have HS4_ := (hb.cell (World.block_lt_of_cell? _ _ (hHeld.2.2.2.2.1))).trans (hHeld.2.2.2.2.1)
               have HS5_ := (hb.cell (World.block_lt_of_cell? _ _ (hHeld.2.2.2.2.2.1))).trans (hHeld.2.2.2.2.2.1)
               have HS6_ := (hb.cell (World.block_lt_of_cell? _ _ (hHeld.2.2.2.2.2.2.1))).trans (hHeld.2.2.2.2.2.2.1)
               have HS7_ := (hb.cell (World.block_lt_of_cell? _ _ (hHeld.2.2.2.2.2.2.2.1))).trans (hHeld.2.2.2.2.2.2.2.1)
               have HS8_ := (hb.cell (World.block_lt_of_cell? _ _ (hHeld.2.2.2.2.2.2.2.2.1))).trans (hHeld.2.2.2.2.2.2.2.2.1)
               have HS9_ := (hb.cell (World.block_lt_of_cell? _ _ (hHeld.2.2.2.2.2.2.2.2.2.1))).trans (hHeld.2.2.2.2.2.2.2.2.2.1)
               have HS10_ := (hb.cell (World.block_lt_of_cell? _ _ (hHeld.2.2.2.2.2.2.2.2.2.2.1))).trans (hHeld.2.2.2.2.2.2.2.2.2.2.1)
               have HS11_ := (hb.cell (World.block_lt_of_cell? _ _ (hHeld.2.2.2.2.2.2.2.2.2.2.2.1))).trans (hHeld.2.2.2.2.2.2.2.2.2.2.2.1)
               have HS12_ := (hb.cell (World.block_lt_of_cell? _ _ (hHeld.2.2.2.2.2.2.2.2.2.2.2.2.1))).trans (hHeld.2.2.2.2.2.2.2.2.2.2.2.2.1)
               have HS13_ := (hb.cell (World.block_lt_of_cell? _ _ (hHeld.2.2.2.2.2.2.2.2.2.2.2.2.2.1))).trans (hHeld.2.2.2.2.2.2.2.2.2.2.2.2.2.1)
               have HS14_ := (hb.cell (World.block_lt_of_cell? _ _ (hHeld.2.2.2.2.2.2.2.2.2.2.2.2.2.2.1))).trans (hHeld.2.2.2.2.2.2.2.2.2.2.2.2.2.2.1)
               have HS15_ := (hb.cell (World.block_lt_of_cell? _ _ (hHeld.2.2.2.2.2.2.2.2.2.2.2.2.2.2.2))).trans (hHeld.2.2.2.2.2.2.2.2.2.2.2.2.2.2.2)
               refine ⟨_, rfl, ?_⟩
               have n0_ := Aside0.mk (Kd.V_below (by (with_reducible repeat (first | apply Kd.V_alloc | apply Kd.V_drewN | apply Kd.V_drew)); exact HO_0.out) hb)
               have n1_ := Aside0.mk (Kd.R_below (by (with_reducible repeat (first | apply Kd.R_alloc | apply Kd.R_drewN | apply Kd.R_drew)); exact HO_7.out) hb)
               have n2_ := Aside0.mk (Kd.V_below (by (with_reducible repeat (first | apply Kd.V_alloc | apply Kd.V_drewN | apply Kd.V_drew)); exact HL386_0.out) hb)
               have n3_ := Aside0.mk (blk_below (g := gb375) (o := .cells #[.int .i64 t365, .int .i64 t366, .int .i64 t367, .bool t368, .int .i64 t369, .string t370, .bool t371, .int .i64 t372, .string t373] 47 (0, 0)) (by (with_reducible repeat (first | refine blk_drewN ?_ _ | refine blk_drew ?_ | refine blk_alloc ?_ _)); exact BK375.out) hb)
               have n4_ := Aside0.mk (Kd.C_below (by repeat (first | (with_reducible exact HR386_0.out) | (with_reducible refine Kd.C_alloc ?_ _) | (with_reducible refine Kd.C_drewN ?_ _) | (with_reducible refine Kd.C_drew ?_) | exact HR386_0.out)) hb)
               have n5_ := Aside0.mk (below_step (by repeat (first | (with_reducible first | exact HB.out | apply below_alloc | apply pw_below_drewN | apply below_drew1 | refine below_set ?_ GE375.out) | exact HB.out)) hb)
               clear HO_0
               clear HO_7
               clear HL386_0
               clear BK375
               clear HR386_0
               clear HB
               have HO_0 := n0_
               have HO_7 := n1_
               have HL386_0 := n2_
               have BK375 := n3_
               have HR386_0 := n4_
               have HB := n5_
               clear n0_ n1_ n2_ n3_ n4_ n5_
               (try clear hb)
               (try clear hb2)
               (try clear hk)
               (try clear hi)
               refine hK.out _ _ ⟨HS0_, HS1_, HS2_, HS3_, HS4_, HS5_, HS6_, HS7_, HS8_, HS9_, HS10_, HS11_, HS12_, HS13_, HS14_, HS15_⟩ (fun hHeld => ?_)
               clear hK K
               refine norm_ (a' := ?_) ?_ ?_
               rotate_left
               ·show Act.put _ (some 60) _ = _
                simp only [Act.put, List.setIfInBounds_toArray, List.set_cons_zero, List.set_cons_succ, i64_w, i32_w]
                rfl
               refine pure_ (i := 13) (N := some 61) (v := ?_) (a' := ?_) #[true, true, true, true, true, true, true, true, true, true, true, true, true, true] rfl rfl (any_of HT_.out (by kernel_rfl)) (fun _ _ _ h => h) (Or.inl ⟨by rfl, ?_⟩) ?_ ?_
               rotate_left
               ·intro w'
                go_simp
                with_reducible rfl
               rotate_left
               ·simp only [Act.put, List.setIfInBounds_toArray, List.set_cons_zero, List.set_cons_succ, i64_w, i32_w]
                rfl
               refine done_ (done_of HT_.out (by kernel_rfl)) ?_
               try go_wp2
               go_roundg k2
               case measure => have := HK1.out; have := HK2.out; omega
               case rel => exact ⟨(x12_2), (wrap64 (x13_2 + 1)), (by first | rfl | (simp; done) | (simp [*]; done)), (by first | rfl | (simp; done) | (simp [*]; done)), H', ⟨by have := HK1.out; have := HK2.out; omega⟩, ⟨by (with_reducible repeat (first | apply Kd.V_alloc | apply Kd.V_drewN | apply Kd.V_drew)); exact HO_0.out⟩, ⟨by (with_reducible repeat (first | apply Kd.R_alloc | apply Kd.R_drewN | apply Kd.R_drew)); exact HO_7.out⟩, ⟨by (with_reducible repeat (first | refine blk_drewN ?_ _ | refine blk_drew ?_ | refine blk_alloc ?_ _)); exact BK375.out⟩, ⟨by repeat (first | (with_reducible first | exact HB.out | apply below_alloc | apply pw_below_drewN | apply below_drew1 | refine below_set ?_ GE375.out) | exact HB.out)⟩⟩
             ·rw [if_neg c24] at H
              exact absurd H (by simp)
            ·rw [if_neg c23] at H
             exact absurd H (by simp)
           ·rw [if_neg c22] at H
            exact absurd H (by simp)
          ·rw [if_neg c21] at H
           exact absurd H (by simp)
         ·rw [if_neg c20] at H
          exact absurd H (by simp)
        ·rw [if_neg c19] at H
         have c19b0 : decide (x13_2 < (t358.length : Int)) = false := decide_eq_false c19
         clear c19
         by_cases c31 : x12_2 = 0
         ·rw [if_pos c31] at H
          have c31b0 : (x12_2 == 0) = true := beq_iff_eq.mpr c31
          have c31b1 : (x12_2 != 0) = false := bne_eq_false_iff_eq.mpr c31
          clear c31
          obtain rfl := Option.some.inj H
          go_wp2
          go_ret
          exact ⟨by first | rfl | (simp [errW_none, errW_some] <;> rfl) | (simp [*, errW_none, errW_some] <;> rfl), by repeat (first | (with_reducible first | exact HB.out | apply below_alloc | apply pw_below_drewN | apply below_drew1 | refine below_set ?_ GE375.out) | exact HB.out)⟩
         ·rw [if_neg c31] at H
          have c31b0 : (x12_2 == 0) = false := beq_eq_false_iff_ne.mpr c31
          have c31b1 : (x12_2 != 0) = true := bne_iff_ne.mpr c31
          by_cases c32 : 0 ≤ x11_1
          ·rw [if_pos c32] at H
           have c32b0 : decide (0 ≤ x11_1) = true := decide_eq_true c32
           clear c32
           by_cases c33 : x11_1 < (t361.length : Int)
           ·rw [if_pos c33] at H
            have c33b0 : decide (x11_1 < (t361.length : Int)) = true := decide_eq_true c33
            clear c33
            by_cases c34 : x12_2 = ((rd_T49 t361 x11_1).f1.f0)
            ·rw [if_pos c34] at H
             have c34b0 : (x12_2 == ((rd_T49 t361 x11_1).f1.f0)) = true := beq_iff_eq.mpr c34
             have c34b1 : (x12_2 != ((rd_T49 t361 x11_1).f1.f0)) = false := bne_eq_false_iff_eq.mpr c34
             clear c34
             have H' := Aside0.mk H
             clear H
             have p390 : 0 ≤ (x11_1 : Int) := of_decide_eq_true (by first | (with_reducible assumption) | assumption)
             have q390 : x11_1 < (t361.length : Int) := of_decide_eq_true (by first | (with_reducible assumption) | assumption)
             obtain ⟨ad390, e390, hx390_0, hx390_1, hx390_2, hx390_3, hx390_4, hx390_5, hx390_6, hx390_7, hx390_8, hx390_9, hx390_10, hx390_11⟩ := at_T49 (Kd.R_reads' HO_7.out).2.2 x11_1 p390 q390
             cases e390
             replace p390 := eq_true p390
             replace q390 := eq_true q390
             go_wp2
             go_roundg k2
             case measure => have := HK1.out; have := HK2.out; omega
             case rel => exact ⟨(wrap64 (x11_1 + 1)), (by first | rfl | (simp; done) | (simp [*]; done)), H', ⟨by have := HK1.out; have := HK2.out; omega⟩, ⟨by (with_reducible repeat (first | apply Kd.V_alloc | apply Kd.V_drewN | apply Kd.V_drew)); exact HO_0.out⟩, ⟨by (with_reducible repeat (first | apply Kd.R_alloc | apply Kd.R_drewN | apply Kd.R_drew)); exact HO_7.out⟩, ⟨by (with_reducible repeat (first | refine blk_drewN ?_ _ | refine blk_drew ?_ | refine blk_alloc ?_ _)); exact BK375.out⟩, ⟨by repeat (first | (with_reducible first | exact HB.out | apply below_alloc | apply pw_below_drewN | apply below_drew1 | refine below_set ?_ GE375.out) | exact HB.out)⟩⟩
            ·rw [if_neg c34] at H
             have c34b0 : (x12_2 == ((rd_T49 t361 x11_1).f1.f0)) = false := beq_eq_false_iff_ne.mpr c34
             have c34b1 : (x12_2 != ((rd_T49 t361 x11_1).f1.f0)) = true := bne_iff_ne.mpr c34
             obtain rfl := Option.some.inj H
             have p390 : 0 ≤ (x11_1 : Int) := of_decide_eq_true (by first | (with_reducible assumption) | assumption)
             have q390 : x11_1 < (t361.length : Int) := of_decide_eq_true (by first | (with_reducible assumption) | assumption)
             obtain ⟨ad390, e390, hx390_0, hx390_1, hx390_2, hx390_3, hx390_4, hx390_5, hx390_6, hx390_7, hx390_8, hx390_9, hx390_10, hx390_11⟩ := at_T49 (Kd.R_reads' HO_7.out).2.2 x11_1 p390 q390
             cases e390
             replace p390 := eq_true p390
             replace q390 := eq_true q390
             go_wp2
             go_ret
             exact ⟨by first | rfl | (simp [errW_none, errW_some] <;> rfl) | (simp [*, errW_none, errW_some] <;> rfl), by repeat (first | (with_reducible first | exact HB.out | apply below_alloc | apply pw_below_drewN | apply below_drew1 | refine below_set ?_ GE375.out) | exact HB.out)⟩
           ·rw [if_neg c33] at H
            exact absurd H (by simp)
          ·rw [if_neg c32] at H
           exact absurd H (by simp)
     ·rw [if_neg c17] at H
      have c17b0 : decide (x11_1 < (t361.length : Int)) = false := decide_eq_false c17
      clear c17
      by_cases c35 : t374 = 0
      ·rw [if_pos c35] at H
       have c35b0 : (t374 == 0) = true := beq_iff_eq.mpr c35
       have c35b1 : (t374 != 0) = false := bne_eq_false_iff_eq.mpr c35
       clear c35
       replace H := Option.bind_eq_some_iff.mp H
       obtain ⟨⟨t376, t377, t378, t379, t380, t381, t382, t383, t384⟩, A360, H⟩ := H
       replace H : (if (t376 == t365 && (t377 == t366 && (t378 == t367 && ((t379 == t368 && (t380 == t369 && (t381.toList == t370.toList))) && ((t382 == t371 && (t383 == t372 && (t384.toList == t373.toList)))))))) = true then ((tithebarnref24_Sorted.f k1 t361).bind fun t385 => (some t385)) else (some false)) = some r := H
       have A36 := Aside0.mk A360
       clear A360
       by_cases c37 : (t376 == t365 && (t377 == t366 && (t378 == t367 && ((t379 == t368 && (t380 == t369 && (t381.toList == t370.toList))) && ((t382 == t371 && (t383 == t372 && (t384.toList == t373.toList)))))))) = true
       ·rw [if_pos c37] at H
        have c37b0 : (t376 == t365 && (t377 == t366 && (t378 == t367 && ((t379 == t368 && (t380 == t369 && (t381.toList == t370.toList))) && ((t382 == t371 && (t383 == t372 && (t384.toList == t373.toList)))))))) = true := c37
        (try (have c37q : (t376 == t365 && (t377 == t366 && (t378 == t367 && ((t379 == t368 && (t380 == t369 && (t381.toList == t370.toList))) && ((t382 == t371 && (t383 == t372 && (t384.toList == t373.toList)))))))) = true := (by simpa using c37); simp only [Bool.and_eq_true, Bool.not_eq_true', beq_iff_eq] at c37q))
        (try (have c37b1 : decide (t376 = t365 && (t377 == t366 && (t378 == t367 && ((t379 == t368 && (t380 == t369 && (t381.toList == t370.toList))) && ((t382 == t371 && (t383 == t372 && (t384.toList == t373.toList)))))))) = true := by simpa using c37))
        (try (have c37b2 : (t376 == t365 && (t377 == t366 && (t378 == t367 && ((t379 == t368 && (t380 == t369 && (t381.toList == t370.toList))) && ((t382 == t371 && (t383 == t372 && (t384.toList == t373.toList)))))))) = true := by simpa using c37))
        clear c37
        replace H := Option.bind_eq_some_iff.mp H
        obtain ⟨t385, A380, H⟩ := H
        replace H : (some t385) = some r := H
        have A38 := Aside0.mk A380
        clear A380
        obtain rfl := Option.some.inj H
        obtain ⟨Ao39, co39, eo39⟩ := Kd.R_slice HO_7.out
        subst eo39
        try go_wp2
        have n0_ := Aside0.mk (Kd.V_drew HO_0.out)
        have n1_ := Aside0.mk (Kd.R_drew HO_7.out)
        have n2_ := Aside0.mk (blk_drew BK375.out)
        have n3_ := Aside0.mk (below_drew1 HB.out)
        clear HO_0
        clear HO_7
        clear BK375
        clear HB
        have HO_0 := n0_
        have HO_7 := n1_
        have BK375 := n2_
        have HB := n3_
        clear n0_ n1_ n2_ n3_
        refine start_ (n := 13) (S := fun w' => w'.cell? ⟨gb375, 0, none⟩ = some (.int .i64 t365) ∧ w'.cell? ⟨gb375, 1, none⟩ = some (.int .i64 t366) ∧ w'.cell? ⟨gb375, 2, none⟩ = some (.int .i64 t367) ∧ w'.cell? ⟨gb375, 3, none⟩ = some (.bool t368) ∧ w'.cell? ⟨gb375, 4, none⟩ = some (.int .i64 t369) ∧ w'.cell? ⟨gb375, 5, none⟩ = some (.string t370) ∧ w'.cell? ⟨gb375, 6, none⟩ = some (.bool t371) ∧ w'.cell? ⟨gb375, 7, none⟩ = some (.int .i64 t372) ∧ w'.cell? ⟨gb375, 8, none⟩ = some (.string t373)) (ds := []) #[false, false, false, false, false, false, false, false, false, false, false, false, false] (by kernel_rfl) rfl rfl ⟨(blk_cell BK375.out 0).trans rfl, (blk_cell BK375.out 1).trans rfl, (blk_cell BK375.out 2).trans rfl, (blk_cell BK375.out 3).trans rfl, (blk_cell BK375.out 4).trans rfl, (blk_cell BK375.out 5).trans rfl, (blk_cell BK375.out 6).trans rfl, (blk_cell BK375.out 7).trans rfl, (blk_cell BK375.out 8).trans rfl⟩ (fun hHeld => ?_); refine with_tabW tithebarnlaw24_GroupsTotal.tab19 tithebarnlaw24_GroupsTotal.bits19 (fun HT_ HW_ => ?_)
        generalize wr.drew = w40 at HO_0 HO_7 BK375 HB hHeld ⊢
        refine pure_ (i := 0) (N := some 76) (v := ?_) (a' := ?_) #[true, false, false, false, false, false, false, false, false, false, false, false, false] rfl rfl (any_of HT_.out (by kernel_rfl)) (fun _ _ _ h => h) (Or.inl ⟨by rfl, ?_⟩) ?_ ?_
        rotate_left
        ·intro w'
         go_simp
         with_reducible rfl
        rotate_left
        ·simp only [Act.put, List.setIfInBounds_toArray, List.set_cons_zero, List.set_cons_succ, i64_w, i32_w]
         rfl
        refine pure_ (i := 1) (N := some 77) (v := ?_) (a' := ?_) #[true, true, false, false, false, false, false, false, false, false, false, false, false] rfl rfl (any_of HT_.out (by kernel_rfl)) (fun _ _ _ h => h) (Or.inl ⟨by rfl, ?_⟩) ?_ ?_
        rotate_left
        ·intro w'
         go_simp
         with_reducible rfl
        rotate_left
        ·simp only [Act.put, List.setIfInBounds_toArray, List.set_cons_zero, List.set_cons_succ, i64_w, i32_w]
         rfl
        refine pure_ (i := 2) (N := some 78) (v := ?_) (a' := ?_) #[true, true, true, false, false, false, false, false, false, false, false, false, false] rfl rfl (any_of HT_.out (by kernel_rfl)) (fun _ _ _ h => h) (Or.inl ⟨by rfl, ?_⟩) ?_ ?_
        rotate_left
        ·intro w'
         go_simp
         with_reducible rfl
        rotate_left
        ·simp only [Act.put, List.setIfInBounds_toArray, List.set_cons_zero, List.set_cons_succ, i64_w, i32_w]
         rfl
        refine pure_ (i := 3) (N := some 79) (v := ?_) (a' := ?_) #[true, true, true, true, false, false, false, false, false, false, false, false, false] rfl rfl (any_of HT_.out (by kernel_rfl)) (fun _ _ _ h => h) (Or.inl ⟨by rfl, ?_⟩) ?_ ?_
        rotate_left
        ·intro w'
         go_simp
         with_reducible rfl
        rotate_left
        ·simp only [Act.put, List.setIfInBounds_toArray, List.set_cons_zero, List.set_cons_succ, i64_w, i32_w]
         rfl
        refine take_ (i := 5) (N := some 81) (v := ?_) (a' := ?_) #[true, true, true, true, false, true, false, false, false, false, false, false, false] rfl rfl (take_ofW HT_.out HW_.out (by kernel_rfl)) (fun _ _ _ h => h) (Or.inl ⟨by rfl, ?_⟩) hHeld ?_ ?_
        rotate_left
        ·rintro w' ⟨s0, s1, s2, s3, s4, s5, s6, s7, s8⟩
         go_simp
         with_reducible rfl
        rotate_left
        ·simp only [Act.put, List.setIfInBounds_toArray, List.set_cons_zero, List.set_cons_succ, i64_w, i32_w]
         rfl
        refine one_ (i := 4) (N := some 80) #[true, true, true, true, true, true, false, false, false, false, false, false, false] rfl rfl (one_of HT_.out (by kernel_rfl)) (by decide) (fun K hK => ?_)
        refine goes_ Try.func30 (by kernel_rfl) rfl #[.slice Ao39 t361.length co39] (by rfl) rfl rfl (by (try simp only [List.map_toArray, List.map_cons, List.map_nil]); first | done | rfl | (simp only [List.length_drop, List.length_take]; rfl)) ?_
        with_reducible refine (groups_Total.calls k1 _ _ t361 t376 t377 t378 t379 t380 t381 t382 t383 t384 _ ?side1 ?side2 A36.out).mono ?_
        (case side1 => repeat (first | exact (Kd.R_reads' HO_7.out).2.2 | (with_reducible refine Kd.C_alloc ?_ _) | (with_reducible refine Kd.C_drewN ?_ _) | (with_reducible refine Kd.C_drew ?_)))
        (case side2 => exact (Kd.R_reads' HO_7.out).2.1)
        rintro e w41 ⟨rfl, hb⟩
        refine ⟨_, rfl, ?_⟩
        have n0_ := Aside0.mk (Kd.V_below (by (with_reducible repeat (first | apply Kd.V_alloc | apply Kd.V_drewN | apply Kd.V_drew)); exact HO_0.out) hb)
        have n1_ := Aside0.mk (Kd.R_below (by (with_reducible repeat (first | apply Kd.R_alloc | apply Kd.R_drewN | apply Kd.R_drew)); exact HO_7.out) hb)
        have n2_ := Aside0.mk (blk_below (g := gb375) (o := .cells #[.int .i64 t365, .int .i64 t366, .int .i64 t367, .bool t368, .int .i64 t369, .string t370, .bool t371, .int .i64 t372, .string t373] 47 (0, 0)) (by (with_reducible repeat (first | refine blk_drewN ?_ _ | refine blk_drew ?_ | refine blk_alloc ?_ _)); exact BK375.out) hb)
        have n3_ := Aside0.mk (below_step (by repeat (first | (with_reducible first | exact HB.out | apply below_alloc | apply pw_below_drewN | apply below_drew1 | refine below_set ?_ GE375.out) | exact HB.out)) hb)
        clear HO_0
        clear HO_7
        clear BK375
        clear HB
        have HO_0 := n0_
        have HO_7 := n1_
        have BK375 := n2_
        have HB := n3_
        clear n0_ n1_ n2_ n3_
        (try clear hb)
        (try clear hb2)
        (try clear hk)
        (try clear hi)
        refine hK.out _ _ ⟨(blk_cell BK375.out 0).trans rfl, (blk_cell BK375.out 1).trans rfl, (blk_cell BK375.out 2).trans rfl, (blk_cell BK375.out 3).trans rfl, (blk_cell BK375.out 4).trans rfl, (blk_cell BK375.out 5).trans rfl, (blk_cell BK375.out 6).trans rfl, (blk_cell BK375.out 7).trans rfl, (blk_cell BK375.out 8).trans rfl⟩ (fun hHeld => ?_)
        clear hK K
        refine norm_ (a' := ?_) ?_ ?_
        rotate_left
        ·show Act.put _ (some 80) _ = _
         simp only [Act.put, List.setIfInBounds_toArray, List.set_cons_zero, List.set_cons_succ, i64_w, i32_w]
         rfl
        refine pure_ (i := 6) (N := some 82) (v := ?_) (a' := ?_) #[true, true, true, true, true, true, true, false, false, false, false, false, false] rfl rfl (any_of HT_.out (by kernel_rfl)) (fun _ _ _ h => h) (Or.inl ⟨by rfl, ?_⟩) ?_ ?_
        rotate_left
        ·intro w'
         go_simp
         with_reducible rfl
        rotate_left
        ·simp only [Act.put, List.setIfInBounds_toArray, List.set_cons_zero, List.set_cons_succ, i64_w, i32_w]
         rfl
        refine pure_ (i := 7) (N := some 83) (v := ?_) (a' := ?_) #[true, true, true, true, true, true, true, true, false, false, false, false, false] rfl rfl (any_of HT_.out (by kernel_rfl)) (fun _ _ _ h => h) (Or.inl ⟨by rfl, ?_⟩) ?_ ?_
        rotate_left
        ·intro w'
         go_simp
         with_reducible rfl
        rotate_left
        ·simp only [Act.put, List.setIfInBounds_toArray, List.set_cons_zero, List.set_cons_succ, i64_w, i32_w]
         rfl
        refine pure_ (i := 8) (N := some 84) (v := ?_) (a' := ?_) #[true, true, true, true, true, true, true, true, true, false, false, false, false] rfl rfl (any_of HT_.out (by kernel_rfl)) (fun _ _ _ h => h) (Or.inl ⟨by rfl, ?_⟩) ?_ ?_
        rotate_left
        ·intro w'
         go_simp
         with_reducible rfl
        rotate_left
        ·simp only [Act.put, List.setIfInBounds_toArray, List.set_cons_zero, List.set_cons_succ, i64_w, i32_w]
         rfl
        refine pure_ (i := 9) (N := some 85) (v := ?_) (a' := ?_) #[true, true, true, true, true, true, true, true, true, true, false, false, false] rfl rfl (any_of HT_.out (by kernel_rfl)) (fun _ _ _ h => h) (Or.inl ⟨by rfl, ?_⟩) ?_ ?_
        rotate_left
        ·intro w'
         go_simp
         with_reducible rfl
        rotate_left
        ·simp only [Act.put, List.setIfInBounds_toArray, List.set_cons_zero, List.set_cons_succ, i64_w, i32_w]
         rfl
        refine one_ (i := 10) (N := some 86) #[true, true, true, true, true, true, true, true, true, true, true, false, false] rfl rfl (one_of HT_.out (by kernel_rfl)) (by decide) (fun K hK => ?_)
        refine goes_ Try.func34 (by kernel_rfl) rfl #[.slice Ao39 t361.length co39] (by rfl) rfl rfl (by (try simp only [List.map_toArray, List.map_cons, List.map_nil]); first | done | rfl | (simp only [List.length_drop, List.length_take]; rfl)) ?_
        with_reducible refine (tithebarnref24_Sorted.calls k1 _ _ t361 t385 _ ?side1 ?side2 A38.out).mono ?_
        (case side1 => repeat (first | exact (Kd.R_reads' HO_7.out).2.2 | (with_reducible refine Kd.C_alloc ?_ _) | (with_reducible refine Kd.C_drewN ?_ _) | (with_reducible refine Kd.C_drew ?_)))
        (case side2 => exact (Kd.R_reads' HO_7.out).2.1)
        rintro e w42 ⟨rfl, hb⟩
        refine ⟨_, rfl, ?_⟩
        have n0_ := Aside0.mk (Kd.V_below (by (with_reducible repeat (first | apply Kd.V_alloc | apply Kd.V_drewN | apply Kd.V_drew)); exact HO_0.out) hb)
        have n1_ := Aside0.mk (Kd.R_below (by (with_reducible repeat (first | apply Kd.R_alloc | apply Kd.R_drewN | apply Kd.R_drew)); exact HO_7.out) hb)
        have n2_ := Aside0.mk (blk_below (g := gb375) (o := .cells #[.int .i64 t365, .int .i64 t366, .int .i64 t367, .bool t368, .int .i64 t369, .string t370, .bool t371, .int .i64 t372, .string t373] 47 (0, 0)) (by (with_reducible repeat (first | refine blk_drewN ?_ _ | refine blk_drew ?_ | refine blk_alloc ?_ _)); exact BK375.out) hb)
        have n3_ := Aside0.mk (below_step (by repeat (first | (with_reducible first | exact HB.out | apply below_alloc | apply pw_below_drewN | apply below_drew1 | refine below_set ?_ GE375.out) | exact HB.out)) hb)
        clear HO_0
        clear HO_7
        clear BK375
        clear HB
        have HO_0 := n0_
        have HO_7 := n1_
        have BK375 := n2_
        have HB := n3_
        clear n0_ n1_ n2_ n3_
        (try clear hb)
        (try clear hb2)
        (try clear hk)
        (try clear hi)
        refine hK.out _ _ ⟨(blk_cell BK375.out 0).trans rfl, (blk_cell BK375.out 1).trans rfl, (blk_cell BK375.out 2).trans rfl, (blk_cell BK375.out 3).trans rfl, (blk_cell BK375.out 4).trans rfl, (blk_cell BK375.out 5).trans rfl, (blk_cell BK375.out 6).trans rfl, (blk_cell BK375.out 7).trans rfl, (blk_cell BK375.out 8).trans rfl⟩ (fun hHeld => ?_)
        clear hK K
        refine norm_ (a' := ?_) ?_ ?_
        rotate_left
        ·show Act.put _ (some 86) _ = _
         simp only [Act.put, List.setIfInBounds_toArray, List.set_cons_zero, List.set_cons_succ, i64_w, i32_w]
         rfl
        refine pure_ (i := 11) (N := some 87) (v := ?_) (a' := ?_) #[true, true, true, true, true, true, true, true, true, true, true, true, false] rfl rfl (any_of HT_.out (by kernel_rfl)) (fun _ _ _ h => h) (Or.inl ⟨by rfl, ?_⟩) ?_ ?_
        rotate_left
        ·intro w'
         go_simp
         with_reducible rfl
        rotate_left
        ·simp only [Act.put, List.setIfInBounds_toArray, List.set_cons_zero, List.set_cons_succ, i64_w, i32_w]
         rfl
        refine pure_ (i := 12) (N := some 6) (v := ?_) (a' := ?_) #[true, true, true, true, true, true, true, true, true, true, true, true, true] rfl rfl (any_of HT_.out (by kernel_rfl)) (fun _ _ _ h => h) (Or.inl ⟨by rfl, ?_⟩) ?_ ?_
        rotate_left
        ·intro w'
         go_simp
         with_reducible rfl
        rotate_left
        ·simp only [Act.put, List.setIfInBounds_toArray, List.set_cons_zero, List.set_cons_succ, i64_w, i32_w]
         rfl
        refine done_ (done_of HT_.out (by kernel_rfl)) ?_
        try go_wp2
        go_ret
        exact ⟨by first | rfl | (simp [errW_none, errW_some] <;> rfl) | (simp [*, errW_none, errW_some] <;> rfl), by repeat (first | (with_reducible first | exact HB.out | apply below_alloc | apply pw_below_drewN | apply below_drew1 | refine below_set ?_ GE375.out) | exact HB.out)⟩
       ·rw [if_neg c37] at H
        have c37b0 : (t376 == t365 && (t377 == t366 && (t378 == t367 && ((t379 == t368 && (t380 == t369 && (t381.toList == t370.toList))) && ((t382 == t371 && (t383 == t372 && (t384.toList == t373.toList)))))))) = false := by simpa using c37
        (try (have c37q : ¬ (t376 == t365 && (t377 == t366 && (t378 == t367 && ((t379 == t368 && (t380 == t369 && (t381.toList == t370.toList))) && ((t382 == t371 && (t383 == t372 && (t384.toList == t373.toList)))))))) = true := (by simp only [c37b0]; exact Bool.false_ne_true); simp only [Bool.and_eq_true, Bool.not_eq_true', beq_iff_eq] at c37q))
        (try (have c37b1 : decide (t376 = t365 && (t377 == t366 && (t378 == t367 && ((t379 == t368 && (t380 == t369 && (t381.toList == t370.toList))) && ((t382 == t371 && (t383 == t372 && (t384.toList == t373.toList)))))))) = false := by simpa using c37))
        (try (have c37b2 : (t376 == t365 && (t377 == t366 && (t378 == t367 && ((t379 == t368 && (t380 == t369 && (t381.toList == t370.toList))) && ((t382 == t371 && (t383 == t372 && (t384.toList == t373.toList)))))))) = false := by simpa using c37))
        (try (have c37b3 : ¬ (t376 = t365 && (t377 == t366 && (t378 == t367 && ((t379 == t368 && (t380 == t369 && (t381.toList == t370.toList))) && ((t382 == t371 && (t383 == t372 && (t384.toList == t373.toList)))))))) := by simpa using c37))
        clear c37
        obtain rfl := Option.some.inj H
        obtain ⟨Ao43, co43, eo43⟩ := Kd.R_slice HO_7.out
        subst eo43
        try go_wp2
        have n0_ := Aside0.mk (Kd.V_drew HO_0.out)
        have n1_ := Aside0.mk (Kd.R_drew HO_7.out)
        have n2_ := Aside0.mk (blk_drew BK375.out)
        have n3_ := Aside0.mk (below_drew1 HB.out)
        clear HO_0
        clear HO_7
        clear BK375
        clear HB
        have HO_0 := n0_
        have HO_7 := n1_
        have BK375 := n2_
        have HB := n3_
        clear n0_ n1_ n2_ n3_
        refine start_ (n := 13) (S := fun w' => w'.cell? ⟨gb375, 0, none⟩ = some (.int .i64 t365) ∧ w'.cell? ⟨gb375, 1, none⟩ = some (.int .i64 t366) ∧ w'.cell? ⟨gb375, 2, none⟩ = some (.int .i64 t367) ∧ w'.cell? ⟨gb375, 3, none⟩ = some (.bool t368) ∧ w'.cell? ⟨gb375, 4, none⟩ = some (.int .i64 t369) ∧ w'.cell? ⟨gb375, 5, none⟩ = some (.string t370) ∧ w'.cell? ⟨gb375, 6, none⟩ = some (.bool t371) ∧ w'.cell? ⟨gb375, 7, none⟩ = some (.int .i64 t372) ∧ w'.cell? ⟨gb375, 8, none⟩ = some (.string t373)) (ds := []) #[false, false, false, false, false, false, false, false, false, false, false, false, false] (by kernel_rfl) rfl rfl ⟨(blk_cell BK375.out 0).trans rfl, (blk_cell BK375.out 1).trans rfl, (blk_cell BK375.out 2).trans rfl, (blk_cell BK375.out 3).trans rfl, (blk_cell BK375.out 4).trans rfl, (blk_cell BK375.out 5).trans rfl, (blk_cell BK375.out 6).trans rfl, (blk_cell BK375.out 7).trans rfl, (blk_cell BK375.out 8).trans rfl⟩ (fun hHeld => ?_); refine with_tabW tithebarnlaw24_GroupsTotal.tab19 tithebarnlaw24_GroupsTotal.bits19 (fun HT_ HW_ => ?_)
        generalize wr.drew = w44 at HO_0 HO_7 BK375 HB hHeld ⊢
        refine pure_ (i := 0) (N := some 76) (v := ?_) (a' := ?_) #[true, false, false, false, false, false, false, false, false, false, false, false, false] rfl rfl (any_of HT_.out (by kernel_rfl)) (fun _ _ _ h => h) (Or.inl ⟨by rfl, ?_⟩) ?_ ?_
        rotate_left
        ·intro w'
         go_simp
         with_reducible rfl
        rotate_left
        ·simp only [Act.put, List.setIfInBounds_toArray, List.set_cons_zero, List.set_cons_succ, i64_w, i32_w]
         rfl
        refine pure_ (i := 1) (N := some 77) (v := ?_) (a' := ?_) #[true, true, false, false, false, false, false, false, false, false, false, false, false] rfl rfl (any_of HT_.out (by kernel_rfl)) (fun _ _ _ h => h) (Or.inl ⟨by rfl, ?_⟩) ?_ ?_
        rotate_left
        ·intro w'
         go_simp
         with_reducible rfl
        rotate_left
        ·simp only [Act.put, List.setIfInBounds_toArray, List.set_cons_zero, List.set_cons_succ, i64_w, i32_w]
         rfl
        refine pure_ (i := 2) (N := some 78) (v := ?_) (a' := ?_) #[true, true, true, false, false, false, false, false, false, false, false, false, false] rfl rfl (any_of HT_.out (by kernel_rfl)) (fun _ _ _ h => h) (Or.inl ⟨by rfl, ?_⟩) ?_ ?_
        rotate_left
        ·intro w'
         go_simp
         with_reducible rfl
        rotate_left
        ·simp only [Act.put, List.setIfInBounds_toArray, List.set_cons_zero, List.set_cons_succ, i64_w, i32_w]
         rfl
        refine pure_ (i := 3) (N := some 79) (v := ?_) (a' := ?_) #[true, true, true, true, false, false, false, false, false, false, false, false, false] rfl rfl (any_of HT_.out (by kernel_rfl)) (fun _ _ _ h => h) (Or.inl ⟨by rfl, ?_⟩) ?_ ?_
        rotate_left
        ·intro w'
         go_simp
         with_reducible rfl
        rotate_left
        ·simp only [Act.put, List.setIfInBounds_toArray, List.set_cons_zero, List.set_cons_succ, i64_w, i32_w]
         rfl
        refine take_ (i := 5) (N := some 81) (v := ?_) (a' := ?_) #[true, true, true, true, false, true, false, false, false, false, false, false, false] rfl rfl (take_ofW HT_.out HW_.out (by kernel_rfl)) (fun _ _ _ h => h) (Or.inl ⟨by rfl, ?_⟩) hHeld ?_ ?_
        rotate_left
        ·rintro w' ⟨s0, s1, s2, s3, s4, s5, s6, s7, s8⟩
         go_simp
         with_reducible rfl
        rotate_left
        ·simp only [Act.put, List.setIfInBounds_toArray, List.set_cons_zero, List.set_cons_succ, i64_w, i32_w]
         rfl
        refine one_ (i := 4) (N := some 80) #[true, true, true, true, true, true, false, false, false, false, false, false, false] rfl rfl (one_of HT_.out (by kernel_rfl)) (by decide) (fun K hK => ?_)
        refine goes_ Try.func30 (by kernel_rfl) rfl #[.slice Ao43 t361.length co43] (by rfl) rfl rfl (by (try simp only [List.map_toArray, List.map_cons, List.map_nil]); first | done | rfl | (simp only [List.length_drop, List.length_take]; rfl)) ?_
        with_reducible refine (groups_Total.calls k1 _ _ t361 t376 t377 t378 t379 t380 t381 t382 t383 t384 _ ?side1 ?side2 A36.out).mono ?_
        (case side1 => repeat (first | exact (Kd.R_reads' HO_7.out).2.2 | (with_reducible refine Kd.C_alloc ?_ _) | (with_reducible refine Kd.C_drewN ?_ _) | (with_reducible refine Kd.C_drew ?_)))
        (case side2 => exact (Kd.R_reads' HO_7.out).2.1)
        rintro e w45 ⟨rfl, hb⟩
        refine ⟨_, rfl, ?_⟩
        have n0_ := Aside0.mk (Kd.V_below (by (with_reducible repeat (first | apply Kd.V_alloc | apply Kd.V_drewN | apply Kd.V_drew)); exact HO_0.out) hb)
        have n1_ := Aside0.mk (Kd.R_below (by (with_reducible repeat (first | apply Kd.R_alloc | apply Kd.R_drewN | apply Kd.R_drew)); exact HO_7.out) hb)
        have n2_ := Aside0.mk (blk_below (g := gb375) (o := .cells #[.int .i64 t365, .int .i64 t366, .int .i64 t367, .bool t368, .int .i64 t369, .string t370, .bool t371, .int .i64 t372, .string t373] 47 (0, 0)) (by (with_reducible repeat (first | refine blk_drewN ?_ _ | refine blk_drew ?_ | refine blk_alloc ?_ _)); exact BK375.out) hb)
        have n3_ := Aside0.mk (below_step (by repeat (first | (with_reducible first | exact HB.out | apply below_alloc | apply pw_below_drewN | apply below_drew1 | refine below_set ?_ GE375.out) | exact HB.out)) hb)
        clear HO_0
        clear HO_7
        clear BK375
        clear HB
        have HO_0 := n0_
        have HO_7 := n1_
        have BK375 := n2_
        have HB := n3_
        clear n0_ n1_ n2_ n3_
        (try clear hb)
        (try clear hb2)
        (try clear hk)
        (try clear hi)
        refine hK.out _ _ ⟨(blk_cell BK375.out 0).trans rfl, (blk_cell BK375.out 1).trans rfl, (blk_cell BK375.out 2).trans rfl, (blk_cell BK375.out 3).trans rfl, (blk_cell BK375.out 4).trans rfl, (blk_cell BK375.out 5).trans rfl, (blk_cell BK375.out 6).trans rfl, (blk_cell BK375.out 7).trans rfl, (blk_cell BK375.out 8).trans rfl⟩ (fun hHeld => ?_)
        clear hK K
        refine norm_ (a' := ?_) ?_ ?_
        rotate_left
        ·show Act.put _ (some 80) _ = _
         simp only [Act.put, List.setIfInBounds_toArray, List.set_cons_zero, List.set_cons_succ, i64_w, i32_w]
         rfl
        refine pure_ (i := 6) (N := some 82) (v := ?_) (a' := ?_) #[true, true, true, true, true, true, true, false, false, false, false, false, false] rfl rfl (any_of HT_.out (by kernel_rfl)) (fun _ _ _ h => h) (Or.inl ⟨by rfl, ?_⟩) ?_ ?_
        rotate_left
        ·intro w'
         go_simp
         with_reducible rfl
        rotate_left
        ·simp only [Act.put, List.setIfInBounds_toArray, List.set_cons_zero, List.set_cons_succ, i64_w, i32_w]
         rfl
        refine pure_ (i := 7) (N := some 83) (v := ?_) (a' := ?_) #[true, true, true, true, true, true, true, true, false, false, false, false, false] rfl rfl (any_of HT_.out (by kernel_rfl)) (fun _ _ _ h => h) (Or.inl ⟨by rfl, ?_⟩) ?_ ?_
        rotate_left
        ·intro w'
         go_simp
         with_reducible rfl
        rotate_left
        ·simp only [Act.put, List.setIfInBounds_toArray, List.set_cons_zero, List.set_cons_succ, i64_w, i32_w]
         rfl
        refine pure_ (i := 8) (N := some 84) (v := ?_) (a' := ?_) #[true, true, true, true, true, true, true, true, true, false, false, false, false] rfl rfl (any_of HT_.out (by kernel_rfl)) (fun _ _ _ h => h) (Or.inl ⟨by rfl, ?_⟩) ?_ ?_
        rotate_left
        ·intro w'
         go_simp
         with_reducible rfl
        rotate_left
        ·simp only [Act.put, List.setIfInBounds_toArray, List.set_cons_zero, List.set_cons_succ, i64_w, i32_w]
         rfl
        refine pure_ (i := 9) (N := some 85) (v := undef) (a' := ?_) #[true, true, true, true, true, true, true, true, true, true, false, false, false] rfl rfl (any_of HT_.out (by kernel_rfl)) (fun _ _ _ h => h) (Or.inr ⟨by rfl, rfl⟩) ?_ ?_
        rotate_left
        ·simp only [Act.put, List.setIfInBounds_toArray, List.set_cons_zero, List.set_cons_succ, i64_w, i32_w]
         rfl
        refine pure_ (i := 10) (N := some 86) (v := undef) (a' := ?_) #[true, true, true, true, true, true, true, true, true, true, true, false, false] rfl rfl (any_of HT_.out (by kernel_rfl)) (fun _ _ _ h => h) (Or.inr ⟨by rfl, rfl⟩) ?_ ?_
        rotate_left
        ·simp only [Act.put, List.setIfInBounds_toArray, List.set_cons_zero, List.set_cons_succ, i64_w, i32_w]
         rfl
        refine pure_ (i := 11) (N := some 87) (v := ?_) (a' := ?_) #[true, true, true, true, true, true, true, true, true, true, true, true, false] rfl rfl (any_of HT_.out (by kernel_rfl)) (fun _ _ _ h => h) (Or.inl ⟨by rfl, ?_⟩) ?_ ?_
        rotate_left
        ·intro w'
         go_simp
         with_reducible rfl
        rotate_left
        ·simp only [Act.put, List.setIfInBounds_toArray, List.set_cons_zero, List.set_cons_succ, i64_w, i32_w]
         rfl
        refine pure_ (i := 12) (N := some 6) (v := ?_) (a' := ?_) #[true, true, true, true, true, true, true, true, true, true, true, true, true] rfl rfl (any_of HT_.out (by kernel_rfl)) (fun _ _ _ h => h) (Or.inl ⟨by rfl, ?_⟩) ?_ ?_
        rotate_left
        ·intro w'
         go_simp
         with_reducible rfl
        rotate_left
        ·simp only [Act.put, List.setIfInBounds_toArray, List.set_cons_zero, List.set_cons_succ, i64_w, i32_w]
         rfl
        refine done_ (done_of HT_.out (by kernel_rfl)) ?_
        try go_wp2
        go_ret
        exact ⟨by first | rfl | (simp [errW_none, errW_some] <;> rfl) | (simp [*, errW_none, errW_some] <;> rfl), by repeat (first | (with_reducible first | exact HB.out | apply below_alloc | apply pw_below_drewN | apply below_drew1 | refine below_set ?_ GE375.out) | exact HB.out)⟩
      ·rw [if_neg c35] at H
       have c35b0 : (t374 == 0) = false := beq_eq_false_iff_ne.mpr c35
       have c35b1 : (t374 != 0) = true := bne_iff_ne.mpr c35
       obtain rfl := Option.some.inj H
       obtain ⟨Ao46, co46, eo46⟩ := Kd.R_slice HO_7.out
       subst eo46
       try go_wp2
       have n0_ := Aside0.mk (Kd.V_drew HO_0.out)
       have n1_ := Aside0.mk (Kd.R_drew HO_7.out)
       have n2_ := Aside0.mk (blk_drew BK375.out)
       have n3_ := Aside0.mk (below_drew1 HB.out)
       clear HO_0
       clear HO_7
       clear BK375
       clear HB
       have HO_0 := n0_
       have HO_7 := n1_
       have BK375 := n2_
       have HB := n3_
       clear n0_ n1_ n2_ n3_
       refine start_ (n := 13) (S := fun w' => True) (ds := []) #[false, false, false, false, false, false, false, false, false, false, false, false, false] (by kernel_rfl) rfl rfl trivial (fun hHeld => ?_); refine with_tabW tithebarnlaw24_GroupsTotal.tab19 tithebarnlaw24_GroupsTotal.bits19 (fun HT_ HW_ => ?_)
       generalize wr.drew = w47 at HO_0 HO_7 BK375 HB hHeld ⊢
       refine pure_ (i := 0) (N := some 76) (v := ?_) (a' := ?_) #[true, false, false, false, false, false, false, false, false, false, false, false, false] rfl rfl (any_of HT_.out (by kernel_rfl)) (fun _ _ _ h => h) (Or.inl ⟨by rfl, ?_⟩) ?_ ?_
       rotate_left
       ·intro w'
        go_simp
        with_reducible rfl
       rotate_left
       ·simp only [Act.put, List.setIfInBounds_toArray, List.set_cons_zero, List.set_cons_succ, i64_w, i32_w]
        rfl
       refine pure_ (i := 1) (N := some 77) (v := ?_) (a' := ?_) #[true, true, false, false, false, false, false, false, false, false, false, false, false] rfl rfl (any_of HT_.out (by kernel_rfl)) (fun _ _ _ h => h) (Or.inl ⟨by rfl, ?_⟩) ?_ ?_
       rotate_left
       ·intro w'
        go_simp
        with_reducible rfl
       rotate_left
       ·simp only [Act.put, List.setIfInBounds_toArray, List.set_cons_zero, List.set_cons_succ, i64_w, i32_w]
        rfl
       refine pure_ (i := 2) (N := some 78) (v := ?_) (a' := ?_) #[true, true, true, false, false, false, false, false, false, false, false, false, false] rfl rfl (any_of HT_.out (by kernel_rfl)) (fun _ _ _ h => h) (Or.inl ⟨by rfl, ?_⟩) ?_ ?_
       rotate_left
       ·intro w'
        go_simp
        with_reducible rfl
       rotate_left
       ·simp only [Act.put, List.setIfInBounds_toArray, List.set_cons_zero, List.set_cons_succ, i64_w, i32_w]
        rfl
       refine pure_ (i := 3) (N := some 79) (v := undef) (a' := ?_) #[true, true, true, true, false, false, false, false, false, false, false, false, false] rfl rfl (any_of HT_.out (by kernel_rfl)) (fun _ _ _ h => h) (Or.inr ⟨by rfl, rfl⟩) ?_ ?_
       rotate_left
       ·simp only [Act.put, List.setIfInBounds_toArray, List.set_cons_zero, List.set_cons_succ, i64_w, i32_w]
        rfl
       refine pure_ (i := 4) (N := some 80) (v := undef) (a' := ?_) #[true, true, true, true, true, false, false, false, false, false, false, false, false] rfl rfl (any_of HT_.out (by kernel_rfl)) (fun _ _ _ h => h) (Or.inr ⟨by rfl, rfl⟩) ?_ ?_
       rotate_left
       ·simp only [Act.put, List.setIfInBounds_toArray, List.set_cons_zero, List.set_cons_succ, i64_w, i32_w]
        rfl
       refine pure_ (i := 5) (N := some 81) (v := undef) (a' := ?_) #[true, true, true, true, true, true, false, false, false, false, false, false, false] rfl rfl (any_of HT_.out (by kernel_rfl)) (fun _ _ _ h => h) (Or.inr ⟨by rfl, rfl⟩) ?_ ?_
       rotate_left
       ·simp only [Act.put, List.setIfInBounds_toArray, List.set_cons_zero, List.set_cons_succ, i64_w, i32_w]
        rfl
       refine pure_ (i := 6) (N := some 82) (v := undef) (a' := ?_) #[true, true, true, true, true, true, true, false, false, false, false, false, false] rfl rfl (any_of HT_.out (by kernel_rfl)) (fun _ _ _ h => h) (Or.inr ⟨by rfl, rfl⟩) ?_ ?_
       rotate_left
       ·simp only [Act.put, List.setIfInBounds_toArray, List.set_cons_zero, List.set_cons_succ, i64_w, i32_w]
        rfl
       refine pure_ (i := 7) (N := some 83) (v := ?_) (a' := ?_) #[true, true, true, true, true, true, true, true, false, false, false, false, false] rfl rfl (any_of HT_.out (by kernel_rfl)) (fun _ _ _ h => h) (Or.inl ⟨by rfl, ?_⟩) ?_ ?_
       rotate_left
       ·intro w'
        go_simp
        with_reducible rfl
       rotate_left
       ·simp only [Act.put, List.setIfInBounds_toArray, List.set_cons_zero, List.set_cons_succ, i64_w, i32_w]
        rfl
       refine pure_ (i := 8) (N := some 84) (v := ?_) (a' := ?_) #[true, true, true, true, true, true, true, true, true, false, false, false, false] rfl rfl (any_of HT_.out (by kernel_rfl)) (fun _ _ _ h => h) (Or.inl ⟨by rfl, ?_⟩) ?_ ?_
       rotate_left
       ·intro w'
        go_simp
        with_reducible rfl
       rotate_left
       ·simp only [Act.put, List.setIfInBounds_toArray, List.set_cons_zero, List.set_cons_succ, i64_w, i32_w]
        rfl
       refine pure_ (i := 9) (N := some 85) (v := undef) (a' := ?_) #[true, true, true, true, true, true, true, true, true, true, false, false, false] rfl rfl (any_of HT_.out (by kernel_rfl)) (fun _ _ _ h => h) (Or.inr ⟨by rfl, rfl⟩) ?_ ?_
       rotate_left
       ·simp only [Act.put, List.setIfInBounds_toArray, List.set_cons_zero, List.set_cons_succ, i64_w, i32_w]
        rfl
       refine pure_ (i := 10) (N := some 86) (v := undef) (a' := ?_) #[true, true, true, true, true, true, true, true, true, true, true, false, false] rfl rfl (any_of HT_.out (by kernel_rfl)) (fun _ _ _ h => h) (Or.inr ⟨by rfl, rfl⟩) ?_ ?_
       rotate_left
       ·simp only [Act.put, List.setIfInBounds_toArray, List.set_cons_zero, List.set_cons_succ, i64_w, i32_w]
        rfl
       refine pure_ (i := 11) (N := some 87) (v := ?_) (a' := ?_) #[true, true, true, true, true, true, true, true, true, true, true, true, false] rfl rfl (any_of HT_.out (by kernel_rfl)) (fun _ _ _ h => h) (Or.inl ⟨by rfl, ?_⟩) ?_ ?_
       rotate_left
       ·intro w'
        go_simp
        with_reducible rfl
       rotate_left
       ·simp only [Act.put, List.setIfInBounds_toArray, List.set_cons_zero, List.set_cons_succ, i64_w, i32_w]
        rfl
       refine pure_ (i := 12) (N := some 6) (v := ?_) (a' := ?_) #[true, true, true, true, true, true, true, true, true, true, true, true, true] rfl rfl (any_of HT_.out (by kernel_rfl)) (fun _ _ _ h => h) (Or.inl ⟨by rfl, ?_⟩) ?_ ?_
       rotate_left
       ·intro w'
        go_simp
        with_reducible rfl
       rotate_left
       ·simp only [Act.put, List.setIfInBounds_toArray, List.set_cons_zero, List.set_cons_succ, i64_w, i32_w]
        rfl
       refine done_ (done_of HT_.out (by kernel_rfl)) ?_
       try go_wp2
       go_ret
       exact ⟨by first | rfl | (simp [errW_none, errW_some] <;> rfl) | (simp [*, errW_none, errW_some] <;> rfl), by repeat (first | (with_reducible first | exact HB.out | apply below_alloc | apply pw_below_drewN | apply below_drew1 | refine below_set ?_ GE375.out) | exact HB.out)⟩
  ·rw [if_neg c9] at H
   have c9b0 : (t364 == 0) = false := beq_eq_false_iff_ne.mpr c9
   have c9b1 : (t364 != 0) = true := bne_iff_ne.mpr c9
   obtain rfl := Option.some.inj H
   go_enter Try.func11, Try.ntmps11
   go_wp2_with (first | ((with_reducible refine gate_callee (f := 24) rfl ?_); refine goesL_ (some 14) rfl rfl Try.func24 (by kernel_rfl) rfl #[] rfl (by (try simp only [List.map_toArray, List.map_cons, List.map_nil]); first | done | rfl | (simp only [List.length_drop, List.length_take]; rfl)) ?_; (with_reducible refine (tithebarnlaw24_lives.calls k  true _ A4.out).mono ?_); rintro e w48 ⟨rfl, hb⟩; refine ⟨_, rfl, ?_⟩; have n0_ := Aside0.mk (below_step (by repeat (first | (with_reducible first | exact HB.out | apply below_alloc | apply pw_below_drewN | apply below_drew1) | exact HB.out)) hb); clear HB; have HB := n0_; clear n0_; (try clear hb); (try clear hb2); (try clear hk); (try clear hi)) | ((with_reducible refine gate_callee (f := 27) rfl ?_); refine goesL_ (some 17) rfl rfl Try.func27 (by kernel_rfl) rfl #[.slice A0 l0.length c0] rfl (by (try simp only [List.map_toArray, List.map_cons, List.map_nil]); first | done | rfl | (simp only [List.length_drop, List.length_take]; rfl)) ?_; (with_reducible refine (tithebarnlaw24_early.calls (fun k_ => k_ < w.heap.size) _ _ l0 t358 _ ?side1 A6.out).mono ?_); (case side1 => exact Kd.V_mk HC0.out (Kd.F_below (Kd.C_F (Kd.heap_slice 37 k37_heap) HR0.out) (by repeat (first | (with_reducible first | exact HB.out | apply below_alloc | apply pw_below_drewN | apply below_drew1) | exact HB.out)))); rintro e w49 ⟨v359, rfl, ho0, hb⟩; refine ⟨_, rfl, ?_⟩; have n0_ := Aside0.mk (Kd.V_lower (Kd.V_mono (ok' := fun k_ => True) ho0 (fun k_ hk_ => trivial)) (below_size (by repeat (first | (with_reducible first | exact HB.out | apply below_alloc | apply pw_below_drewN | apply below_drew1) | exact HB.out)))); have n1_ := Aside0.mk (below_step (by repeat (first | (with_reducible first | exact HB.out | apply below_alloc | apply pw_below_drewN | apply below_drew1) | exact HB.out)) hb); clear HB; have HO360 := n0_; have HB := n1_; clear n0_ n1_; (try clear hb); (try clear hb2); (try clear hk); (try clear hi); (try clear ho0); obtain ⟨Ao50, co50, eo50⟩ := Kd.V_slice HO360.out; subst eo50) | ((with_reducible refine gate_callee (f := 26) rfl ?_); refine goesL_ (some 22) rfl rfl Try.func26 (by kernel_rfl) rfl #[.slice Ao50 t358.length co50, .int .i64 a1, .int .i64 a2] rfl (by (try simp only [List.map_toArray, List.map_cons, List.map_nil]); first | done | rfl | (simp only [List.length_drop, List.length_take]; rfl)) ?_; (with_reducible refine (groups_By.calls k (fun k_ => True) _ _ t358 a1 a2 t361 t364 _ ?side1 A7.out).mono ?_); (case side1 => exact HO360.out); rintro e w51 ⟨v362, rfl, ho0, hb⟩; refine ⟨_, rfl, ?_⟩; have n0_ := Aside0.mk (Kd.V_elder' (by (with_reducible repeat (first | apply Kd.V_alloc | apply Kd.V_drewN | apply Kd.V_drew)); exact HO360.out) (Kd.R_base ho0) hb); have n1_ := Aside0.mk (Kd.R_lower (Kd.R_mono (ok' := fun k_ => True) ho0 (fun _ hk_ => trivial)) (below_size (by repeat (first | (with_reducible first | exact HB.out | apply below_alloc | apply pw_below_drewN | apply below_drew1) | exact HB.out)))); have n2_ := Aside0.mk (below_step (by repeat (first | (with_reducible first | exact HB.out | apply below_alloc | apply pw_below_drewN | apply below_drew1) | exact HB.out)) hb); clear HO360; clear HB; have HO360 := n0_; have HO363 := n1_; have HB := n2_; clear n0_ n1_ n2_; (try clear hb); (try clear hb2); (try clear hk); (try clear hi); (try clear ho0)) | ((with_reducible refine gate_callee (f := 32) rfl ?_); refine goesL_ (some 28) rfl rfl Try.func32 (by kernel_rfl) rfl #[.slice Ao50 t358.length co50, .int .i64 a2] rfl (by (try simp only [List.map_toArray, List.map_cons, List.map_nil]); first | done | rfl | (simp only [List.length_drop, List.length_take]; rfl)) ?_; (with_reducible refine (sums_Fold_c.calls _ _ t358 a2 t365 t366 t367 t368 t369 t370 t371 t372 t373 t374 _ ?side1 ?side2 A8.out).mono ?_); (case side1 => repeat (first | exact (Kd.V_reads' HO360.out).2.2 | (with_reducible refine Kd.C_alloc ?_ _) | (with_reducible refine Kd.C_drewN ?_ _) | (with_reducible refine Kd.C_drew ?_))); (case side2 => exact (Kd.V_reads' HO360.out).2.1); rintro e w52 ⟨rfl, hb⟩; refine ⟨_, rfl, ?_⟩; have n0_ := Aside0.mk (Kd.V_below (by (with_reducible repeat (first | apply Kd.V_alloc | apply Kd.V_drewN | apply Kd.V_drew)); exact HO360.out) hb); have n1_ := Aside0.mk (Kd.R_below (by (with_reducible repeat (first | apply Kd.R_alloc | apply Kd.R_drewN | apply Kd.R_drew)); exact HO363.out) hb); have n2_ := Aside0.mk (below_step (by repeat (first | (with_reducible first | exact HB.out | apply below_alloc | apply pw_below_drewN | apply below_drew1) | exact HB.out)) hb); clear HO360; clear HO363; clear HB; have HO360 := n0_; have HO363 := n1_; have HB := n2_; clear n0_ n1_ n2_; (try clear hb); (try clear hb2); (try clear hk); (try clear hi)) | ((with_reducible refine gate_dst (N := 9) rfl ?_); refine box_event ?hg (N := 9) ?hd (cs := #[.int .i64 0, .int .i64 0, .int .i64 0, .bool false, .int .i64 0, .string (⟨#[]⟩ : ByteArray), .bool false, .int .i64 0, .string (⟨#[]⟩ : ByteArray)]) (t := 47) ?hr ?_; (case hd => rfl); (case hg => rfl); (case hr => first | (go_simp; done) | (go_simp; rfl)); intro gb375 hg w53 hbox hb; have n0_ := Aside0.mk (Kd.V_below (Kd.V_elderB (by (with_reducible repeat (first | apply Kd.V_alloc | apply Kd.V_drewN | apply Kd.V_drew)); exact HO360.out) gb375 (Nat.le_of_eq hg.symm)) hb); have n1_ := Aside0.mk (Kd.R_below (by (with_reducible repeat (first | apply Kd.R_alloc | apply Kd.R_drewN | apply Kd.R_drew)); exact HO363.out) hb); have n2_ := Aside0.mk (below_step (by repeat (first | (with_reducible first | exact HB.out | apply below_alloc | apply pw_below_drewN | apply below_drew1) | exact HB.out)) hb); have n3_ := Aside0.mk (hbox); have n4_ := Aside0.mk ((by rw [hg]; exact (below_size (by repeat (first | (with_reducible first | exact HB.out | apply below_alloc | apply pw_below_drewN | apply below_drew1) | exact HB.out))) : w.heap.size ≤ gb375)); have n5_ := Aside0.mk ((by rw [hg]; exact (below_size (by repeat (first | (with_reducible first | exact HB.out | apply below_alloc | apply pw_below_drewN | apply below_drew1) | exact HB.out))) : w.heap.size ≤ gb375)); clear HO360; clear HO363; clear HB; have HO360 := n0_; have HO363 := n1_; have HB := n2_; have BK375 := n3_; have GW375 := n4_; have GE375 := n5_; clear n0_ n1_ n2_ n3_ n4_ n5_; clear hb hbox hg; have hcz54_0 : w53.cell? ⟨gb375, 0, none⟩ = some (.int .i64 0) := (blk_cell BK375.out 0).trans rfl; have hcz54_1 : w53.cell? ⟨gb375, 1, none⟩ = some (.int .i64 0) := (blk_cell BK375.out 1).trans rfl; have hcz54_2 : w53.cell? ⟨gb375, 2, none⟩ = some (.int .i64 0) := (blk_cell BK375.out 2).trans rfl; have hcz54_3 : w53.cell? ⟨gb375, 3, none⟩ = some (.bool false) := (blk_cell BK375.out 3).trans rfl; have hcz54_4 : w53.cell? ⟨gb375, 4, none⟩ = some (.int .i64 0) := (blk_cell BK375.out 4).trans rfl; have hcz54_5 : w53.cell? ⟨gb375, 5, none⟩ = some (.string (⟨#[]⟩ : ByteArray)) := (blk_cell BK375.out 5).trans rfl; have hcz54_6 : w53.cell? ⟨gb375, 6, none⟩ = some (.bool false) := (blk_cell BK375.out 6).trans rfl; have hcz54_7 : w53.cell? ⟨gb375, 7, none⟩ = some (.int .i64 0) := (blk_cell BK375.out 7).trans rfl; have hcz54_8 : w53.cell? ⟨gb375, 8, none⟩ = some (.string (⟨#[]⟩ : ByteArray)) := (blk_cell BK375.out 8).trans rfl; have hfz54_0 := blk_frozen BK375.out 0; have hfz54_1 := blk_frozen BK375.out 1; have hfz54_2 := blk_frozen BK375.out 2; have hfz54_3 := blk_frozen BK375.out 3; have hfz54_4 := blk_frozen BK375.out 4; have hfz54_5 := blk_frozen BK375.out 5; have hfz54_6 := blk_frozen BK375.out 6; have hfz54_7 := blk_frozen BK375.out 7; have hfz54_8 := blk_frozen BK375.out 8; obtain ⟨Ao55, co55, eo55⟩ := Kd.R_slice HO363.out; subst eo55))
   go_ret
   exact ⟨by first | rfl | (simp [errW_none, errW_some] <;> rfl) | (simp [*, errW_none, errW_some] <;> rfl), by repeat (first | (with_reducible first | exact HB.out | apply below_alloc | apply pw_below_drewN | apply below_drew1 | refine below_set ?_ GE375.out) | exact HB.out)⟩
 ·replace c5 := Bool.eq_false_iff.mpr c5
  subst c5
  have H1 : (some false) = some r := by rw [if_neg (show ¬ (false = true) by decide)] at H; exact H
  clear H
  have H := H1
  clear H1
  obtain rfl := Option.some.inj H
  go_enter Try.func11, Try.ntmps11
  go_wp2_with (first | ((with_reducible refine gate_callee (f := 24) rfl ?_); refine goesL_ (some 14) rfl rfl Try.func24 (by kernel_rfl) rfl #[] rfl (by (try simp only [List.map_toArray, List.map_cons, List.map_nil]); first | done | rfl | (simp only [List.length_drop, List.length_take]; rfl)) ?_; (with_reducible refine (tithebarnlaw24_lives.calls k  false _ A4.out).mono ?_); rintro e w56 ⟨rfl, hb⟩; refine ⟨_, rfl, ?_⟩; have n0_ := Aside0.mk (below_step (by repeat (first | (with_reducible first | exact HB.out | apply below_alloc | apply pw_below_drewN | apply below_drew1) | exact HB.out)) hb); clear HB; have HB := n0_; clear n0_; (try clear hb); (try clear hb2); (try clear hk); (try clear hi)))
  go_ret
  exact ⟨by first | rfl | (simp [errW_none, errW_some] <;> rfl) | (simp [*, errW_none, errW_some] <;> rfl), by repeat (first | (with_reducible first | exact HB.out | apply below_alloc | apply pw_below_drewN | apply below_drew1) | exact HB.out)⟩

end Go.Proofs.Ythlelhndmnkmjaa.Pr
