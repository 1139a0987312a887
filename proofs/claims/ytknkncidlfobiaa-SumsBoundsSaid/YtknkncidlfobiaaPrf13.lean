-- printed by xprint.py (this seat's own program, over the kit's print.py); not trusted: Lean checks it
import Derived.Test.YtknkncidlfobiaaPr0
import Derived.Test.YtknkncidlfobiaaPrE23
import Derived.Test.YtknkncidlfobiaaPrE52
import Derived.Test.YtknkncidlfobiaaPrf34
import Derived.Test.YtknkncidlfobiaaPrf32
import Derived.Test.YtknkncidlfobiaaPrf28
namespace Go.Proofs.Ytknkncidlfobiaa.Pr
open Go.RowKit Go.Proofs.YtknkncidlfobiaaW.PrintWords Go.Proofs.YtknkncidlfobiaaW.PrintLast Go.Proofs.YtknkncidlfobiaaW.PrintMore
attribute [local go_sem] max2_int min2_int max_two min_two max_three min_three max_four min_four   -- for this text's walks alone
set_option linter.unusedVariables false
set_option linter.unusedSimpArgs false

attribute [local go_sem high] eqA23 eqA52
/-! ### tithebarnlaw18_SumsBounds: function 13 -/
mutual
def tithebarnlaw18_SumsBounds.l0 : Nat → List (List (S23)) → Int → Int → Bool → Bool → Int → Int → Int → Int → Bool → Int → ByteArray → Bool → Int → ByteArray → Option (Bool)
  | 0, _, _, _, _, _, _, _, _, _, _, _, _, _, _, _ => none
  | k + 1, x0, x1, x7, x8, x9, x10, x417000, x417001, x417002, x417003, x417004, x417005, x417006, x417007, x417008 => if x10 < (x0.length : Int) then (if 0 ≤ x10 then (if 0 ≤ x1 then (if x1 < ((rd_L6 x0 x10).length : Int) then (if (rd_T23 (rd_L6 x0 x10) x1).f0 = true then (tithebarnlaw18_SumsBounds.l0 k x0 x1 x7 x8 x9 (wrap64 (x10 + 1)) x417000 x417001 x417002 x417003 x417004 x417005 x417006 x417007 x417008) else (if x8 = true then (tithebarnlaw18_SumsBounds.j1 k x0 x1 (wrap64 (x7 + 1)) true x9 x10 x417000 x417001 x417002 x417003 x417004 x417005 x417006 x417007 x417008 ((rd_T23 (rd_L6 x0 x10) x1).f0) ((rd_T23 (rd_L6 x0 x10) x1).f1) ((rd_T23 (rd_L6 x0 x10) x1).f2)) else (tithebarnlaw18_SumsBounds.j1 k x0 x1 (wrap64 (x7 + 1)) (((rd_T23 (rd_L6 x0 x10) x1).f0) == x417003 && (((rd_T23 (rd_L6 x0 x10) x1).f1) == x417004 && ((((rd_T23 (rd_L6 x0 x10) x1).f2).toList) == x417005.toList))) x9 x10 x417000 x417001 x417002 x417003 x417004 x417005 x417006 x417007 x417008 ((rd_T23 (rd_L6 x0 x10) x1).f0) ((rd_T23 (rd_L6 x0 x10) x1).f1) ((rd_T23 (rd_L6 x0 x10) x1).f2)))) else (none)) else (none)) else (none)) else (if x417000 = (x0.length : Int) then (if x417002 = x7 then (if x7 = 0 then (if (!x417003 && (x417004 == 0 && (x417005.toList == ([] : List UInt8)))) = true then (if (!x417006 && (x417007 == 0 && (x417008.toList == ([] : List UInt8)))) = true then (if x417001 = 0 then (some true) else (if x7 > 0 then (if x8 = true then (some x9) else (some false)) else (some false))) else (if x7 > 0 then (if x8 = true then (some x9) else (some false)) else (some false))) else (if x7 > 0 then (if x8 = true then (some x9) else (some false)) else (some false))) else (if x7 > 0 then (if x8 = true then (some x9) else (some false)) else (some false))) else (some false)) else (some false))
def tithebarnlaw18_SumsBounds.j1 : Nat → List (List (S23)) → Int → Int → Bool → Bool → Int → Int → Int → Int → Bool → Int → ByteArray → Bool → Int → ByteArray → Bool → Int → ByteArray → Option (Bool)
  | 0, _, _, _, _, _, _, _, _, _, _, _, _, _, _, _, _, _, _ => none
  | k + 1, x0, x1, x7, x8, x9, x10, x417000, x417001, x417002, x417003, x417004, x417005, x417006, x417007, x417008, x420000, x420001, x420002 => if x9 = true then (tithebarnlaw18_SumsBounds.j2 k x0 x1 x7 x8 true x10 x417000 x417001 x417002 x417003 x417004 x417005 x417006 x417007 x417008 x420000 x420001 x420002) else (tithebarnlaw18_SumsBounds.j2 k x0 x1 x7 x8 (x420000 == x417006 && (x420001 == x417007 && (x420002.toList == x417008.toList))) x10 x417000 x417001 x417002 x417003 x417004 x417005 x417006 x417007 x417008 x420000 x420001 x420002)
def tithebarnlaw18_SumsBounds.j2 : Nat → List (List (S23)) → Int → Int → Bool → Bool → Int → Int → Int → Int → Bool → Int → ByteArray → Bool → Int → ByteArray → Bool → Int → ByteArray → Option (Bool)
  | 0, _, _, _, _, _, _, _, _, _, _, _, _, _, _, _, _, _, _ => none
  | k + 1, x0, x1, x7, x8, x9, x10, x417000, x417001, x417002, x417003, x417004, x417005, x417006, x417007, x417008, x420000, x420001, x420002 => (tithebarnref02_Ahead_c.f x420000 x420001 x420002 x417003 x417004 x417005).bind fun t420 => (if t420 = true then (some false) else ((tithebarnref02_Ahead_c.f x417006 x417007 x417008 x420000 x420001 x420002).bind fun t421 => (if t421 = true then (some false) else (tithebarnlaw18_SumsBounds.l0 k x0 x1 x7 x8 x9 (wrap64 (x10 + 1)) x417000 x417001 x417002 x417003 x417004 x417005 x417006 x417007 x417008))))
end
def tithebarnlaw18_SumsBounds.f (k : Nat) (l0 : List (List (S23))) (a1 : Int) : Option (Bool) := (tithebarnlaw18_lives_c.f).bind fun t405 => (if t405 = true then ((sums_Fold_c.f l0 a1).bind fun bt406 => (if bt406.2.2.2.2.2.2.2.2.2 = 0 then (tithebarnlaw18_SumsBounds.l0 k l0 a1 0 false false 0 bt406.1 bt406.2.1 bt406.2.2.1 bt406.2.2.2.1 bt406.2.2.2.2.1 bt406.2.2.2.2.2.1 bt406.2.2.2.2.2.2.1 bt406.2.2.2.2.2.2.2.1 bt406.2.2.2.2.2.2.2.2.1) else (some (bt406.1 == 0 && (bt406.2.1 == 0 && (bt406.2.2.1 == 0 && ((!bt406.2.2.2.1 && (bt406.2.2.2.2.1 == 0 && (bt406.2.2.2.2.2.1.toList == ([] : List UInt8)))) && ((!bt406.2.2.2.2.2.2.1 && (bt406.2.2.2.2.2.2.2.1 == 0 && (bt406.2.2.2.2.2.2.2.2.1.toList == ([] : List UInt8)))))))))))) else (some false))
theorem tithebarnlaw18_SumsBounds.mono_l : ∀ k, (∀ y0 y1 y2 y3 y4 y5 y6 y7 y8 y9 y10 y11 y12 y13 y14, LeO (tithebarnlaw18_SumsBounds.l0 k y0 y1 y2 y3 y4 y5 y6 y7 y8 y9 y10 y11 y12 y13 y14) (tithebarnlaw18_SumsBounds.l0 (k + 1) y0 y1 y2 y3 y4 y5 y6 y7 y8 y9 y10 y11 y12 y13 y14)) ∧ (∀ y0 y1 y2 y3 y4 y5 y6 y7 y8 y9 y10 y11 y12 y13 y14 y15 y16 y17, LeO (tithebarnlaw18_SumsBounds.j1 k y0 y1 y2 y3 y4 y5 y6 y7 y8 y9 y10 y11 y12 y13 y14 y15 y16 y17) (tithebarnlaw18_SumsBounds.j1 (k + 1) y0 y1 y2 y3 y4 y5 y6 y7 y8 y9 y10 y11 y12 y13 y14 y15 y16 y17)) ∧ (∀ y0 y1 y2 y3 y4 y5 y6 y7 y8 y9 y10 y11 y12 y13 y14 y15 y16 y17, LeO (tithebarnlaw18_SumsBounds.j2 k y0 y1 y2 y3 y4 y5 y6 y7 y8 y9 y10 y11 y12 y13 y14 y15 y16 y17) (tithebarnlaw18_SumsBounds.j2 (k + 1) y0 y1 y2 y3 y4 y5 y6 y7 y8 y9 y10 y11 y12 y13 y14 y15 y16 y17))
  | 0 => ⟨fun _ _ _ _ _ _ _ _ _ _ _ _ _ _ _ r h => by simp [tithebarnlaw18_SumsBounds.l0] at h, fun _ _ _ _ _ _ _ _ _ _ _ _ _ _ _ _ _ _ r h => by simp [tithebarnlaw18_SumsBounds.j1] at h, fun _ _ _ _ _ _ _ _ _ _ _ _ _ _ _ _ _ _ r h => by simp [tithebarnlaw18_SumsBounds.j2] at h⟩
  | k + 1 => by
    obtain ⟨ih0, ih1, ih2⟩ := tithebarnlaw18_SumsBounds.mono_l k
    refine ⟨?_, ?_, ?_⟩
    · intro y0 y1 y2 y3 y4 y5 y6 y7 y8 y9 y10 y11 y12 y13 y14
      unfold tithebarnlaw18_SumsBounds.l0
      repeat' first
      | (with_reducible exact ih0 _ _ _ _ _ _ _ _ _ _ _ _ _ _ _)
      | (with_reducible exact ih1 _ _ _ _ _ _ _ _ _ _ _ _ _ _ _ _ _ _)
      | (with_reducible exact ih2 _ _ _ _ _ _ _ _ _ _ _ _ _ _ _ _ _ _)
      | (with_reducible exact LeO.refl _)
      | (with_reducible exact LeO.none _)
      | (with_reducible refine LeO.ite ?_ ?_)
      | (with_reducible refine LeO.bind ?_ (fun _ => ?_))
      | exact ih0 _ _ _ _ _ _ _ _ _ _ _ _ _ _ _
      | exact ih1 _ _ _ _ _ _ _ _ _ _ _ _ _ _ _ _ _ _
      | exact ih2 _ _ _ _ _ _ _ _ _ _ _ _ _ _ _ _ _ _
      | exact LeO.none _
      | refine LeO.ite ?_ ?_
      | refine LeO.bind ?_ (fun _ => ?_)
    · intro y0 y1 y2 y3 y4 y5 y6 y7 y8 y9 y10 y11 y12 y13 y14 y15 y16 y17
      unfold tithebarnlaw18_SumsBounds.j1
      repeat' first
      | (with_reducible exact ih0 _ _ _ _ _ _ _ _ _ _ _ _ _ _ _)
      | (with_reducible exact ih1 _ _ _ _ _ _ _ _ _ _ _ _ _ _ _ _ _ _)
      | (with_reducible exact ih2 _ _ _ _ _ _ _ _ _ _ _ _ _ _ _ _ _ _)
      | (with_reducible exact LeO.refl _)
      | (with_reducible exact LeO.none _)
      | (with_reducible refine LeO.ite ?_ ?_)
      | (with_reducible refine LeO.bind ?_ (fun _ => ?_))
      | exact ih0 _ _ _ _ _ _ _ _ _ _ _ _ _ _ _
      | exact ih1 _ _ _ _ _ _ _ _ _ _ _ _ _ _ _ _ _ _
      | exact ih2 _ _ _ _ _ _ _ _ _ _ _ _ _ _ _ _ _ _
      | exact LeO.none _
      | refine LeO.ite ?_ ?_
      | refine LeO.bind ?_ (fun _ => ?_)
    · intro y0 y1 y2 y3 y4 y5 y6 y7 y8 y9 y10 y11 y12 y13 y14 y15 y16 y17
      unfold tithebarnlaw18_SumsBounds.j2
      repeat' first
      | (with_reducible exact ih0 _ _ _ _ _ _ _ _ _ _ _ _ _ _ _)
      | (with_reducible exact ih1 _ _ _ _ _ _ _ _ _ _ _ _ _ _ _ _ _ _)
      | (with_reducible exact ih2 _ _ _ _ _ _ _ _ _ _ _ _ _ _ _ _ _ _)
      | (with_reducible exact LeO.refl _)
      | (with_reducible exact LeO.none _)
      | (with_reducible refine LeO.ite ?_ ?_)
      | (with_reducible refine LeO.bind ?_ (fun _ => ?_))
      | exact ih0 _ _ _ _ _ _ _ _ _ _ _ _ _ _ _
      | exact ih1 _ _ _ _ _ _ _ _ _ _ _ _ _ _ _ _ _ _
      | exact ih2 _ _ _ _ _ _ _ _ _ _ _ _ _ _ _ _ _ _
      | exact LeO.none _
      | refine LeO.ite ?_ ?_
      | refine LeO.bind ?_ (fun _ => ?_)
theorem tithebarnlaw18_SumsBounds.mono : ∀ a0 a1 k, LeO (tithebarnlaw18_SumsBounds.f k a0 a1) (tithebarnlaw18_SumsBounds.f (k + 1) a0 a1) := by
  intro a0 a1 k
  obtain ⟨ih0, ih1, ih2⟩ := tithebarnlaw18_SumsBounds.mono_l k
  unfold tithebarnlaw18_SumsBounds.f
  repeat' first
      | (with_reducible exact ih0 _ _ _ _ _ _ _ _ _ _ _ _ _ _ _)
      | (with_reducible exact ih1 _ _ _ _ _ _ _ _ _ _ _ _ _ _ _ _ _ _)
      | (with_reducible exact ih2 _ _ _ _ _ _ _ _ _ _ _ _ _ _ _ _ _ _)
      | (with_reducible exact LeO.refl _)
      | (with_reducible exact LeO.none _)
      | (with_reducible refine LeO.ite ?_ ?_)
      | (with_reducible refine LeO.bind ?_ (fun _ => ?_))
      | exact ih0 _ _ _ _ _ _ _ _ _ _ _ _ _ _ _
      | exact ih1 _ _ _ _ _ _ _ _ _ _ _ _ _ _ _ _ _ _
      | exact ih2 _ _ _ _ _ _ _ _ _ _ _ _ _ _ _ _ _ _
      | exact LeO.none _
      | refine LeO.ite ?_ ?_
      | refine LeO.bind ?_ (fun _ => ?_)
set_option maxHeartbeats 8000000 in
set_option maxRecDepth 100000 in
theorem tithebarnlaw18_SumsBounds.calls (k : Nat) (A0 : Option Addr) (c0 : Nat) (l0 : List (List (S23))) (a1 : Int) (r : Bool) (w : World) (hr0 : Kd.C (Kd.slice 23 k23) w A0 l0.length l0) (hc0 : l0.length ≤ c0) (h : tithebarnlaw18_SumsBounds.f k l0 a1 = some r) :
    Calls Try.prog 13 #[.slice A0 l0.length c0, .int .i64 a1] w fun e w' => e = .returned (.bool r) ∧ Below w.heap.size w w' := by
  have hu52 := Try.underlying52
  have hu23 := Try.underlying23
  have HR0 := Aside0.mk hr0
  have HC0 := Aside0.mk hc0
  clear hr0 hc0
  have HB := Aside0.mk (Below.refl w.heap.size w)
  have H : ((tithebarnlaw18_lives_c.f).bind fun t405 => (if t405 = true then ((sums_Fold_c.f l0 a1).bind fun bt406 => (if bt406.2.2.2.2.2.2.2.2.2 = 0 then (tithebarnlaw18_SumsBounds.l0 k l0 a1 0 false false 0 bt406.1 bt406.2.1 bt406.2.2.1 bt406.2.2.2.1 bt406.2.2.2.2.1 bt406.2.2.2.2.2.1 bt406.2.2.2.2.2.2.1 bt406.2.2.2.2.2.2.2.1 bt406.2.2.2.2.2.2.2.2.1) else (some (bt406.1 == 0 && (bt406.2.1 == 0 && (bt406.2.2.1 == 0 && ((!bt406.2.2.2.1 && (bt406.2.2.2.2.1 == 0 && (bt406.2.2.2.2.2.1.toList == ([] : List UInt8)))) && ((!bt406.2.2.2.2.2.2.1 && (bt406.2.2.2.2.2.2.2.1 == 0 && (bt406.2.2.2.2.2.2.2.2.1.toList == ([] : List UInt8)))))))))))) else (some false))) = some r := h
  clear h
  replace H := Option.bind_eq_some_iff.mp H
  obtain ⟨t405, A30, H⟩ := H
  replace H : (if t405 = true then ((sums_Fold_c.f l0 a1).bind fun bt406 => (if bt406.2.2.2.2.2.2.2.2.2 = 0 then (tithebarnlaw18_SumsBounds.l0 k l0 a1 0 false false 0 bt406.1 bt406.2.1 bt406.2.2.1 bt406.2.2.2.1 bt406.2.2.2.2.1 bt406.2.2.2.2.2.1 bt406.2.2.2.2.2.2.1 bt406.2.2.2.2.2.2.2.1 bt406.2.2.2.2.2.2.2.2.1) else (some (bt406.1 == 0 && (bt406.2.1 == 0 && (bt406.2.2.1 == 0 && ((!bt406.2.2.2.1 && (bt406.2.2.2.2.1 == 0 && (bt406.2.2.2.2.2.1.toList == ([] : List UInt8)))) && ((!bt406.2.2.2.2.2.2.1 && (bt406.2.2.2.2.2.2.2.1 == 0 && (bt406.2.2.2.2.2.2.2.2.1.toList == ([] : List UInt8)))))))))))) else (some false)) = some r := H
  have A3 := Aside0.mk A30
  clear A30
  by_cases c4 : t405 = true
  · subst c4
    have H1 : ((sums_Fold_c.f l0 a1).bind fun bt406 => (if bt406.2.2.2.2.2.2.2.2.2 = 0 then (tithebarnlaw18_SumsBounds.l0 k l0 a1 0 false false 0 bt406.1 bt406.2.1 bt406.2.2.1 bt406.2.2.2.1 bt406.2.2.2.2.1 bt406.2.2.2.2.2.1 bt406.2.2.2.2.2.2.1 bt406.2.2.2.2.2.2.2.1 bt406.2.2.2.2.2.2.2.2.1) else (some (bt406.1 == 0 && (bt406.2.1 == 0 && (bt406.2.2.1 == 0 && ((!bt406.2.2.2.1 && (bt406.2.2.2.2.1 == 0 && (bt406.2.2.2.2.2.1.toList == ([] : List UInt8)))) && ((!bt406.2.2.2.2.2.2.1 && (bt406.2.2.2.2.2.2.2.1 == 0 && (bt406.2.2.2.2.2.2.2.2.1.toList == ([] : List UInt8)))))))))))) = some r := by rw [if_pos rfl] at H; exact H
    clear H
    have H := H1
    clear H1
    replace H := Option.bind_eq_some_iff.mp H
    obtain ⟨⟨t406, t407, t408, t409, t410, t411, t412, t413, t414, t415⟩, A50, H⟩ := H
    replace H : (if t415 = 0 then (tithebarnlaw18_SumsBounds.l0 k l0 a1 0 false false 0 t406 t407 t408 t409 t410 t411 t412 t413 t414) else (some (t406 == 0 && (t407 == 0 && (t408 == 0 && ((!t409 && (t410 == 0 && (t411.toList == ([] : List UInt8)))) && ((!t412 && (t413 == 0 && (t414.toList == ([] : List UInt8))))))))))) = some r := H
    have A5 := Aside0.mk A50
    clear A50
    by_cases c6 : t415 = 0
    · rw [if_pos c6] at H
      have c6b0 : (t415 == 0) = true := beq_iff_eq.mpr c6
      have c6b1 : (t415 != 0) = false := bne_eq_false_iff_eq.mpr c6
      clear c6
      have H' := Aside0.mk H
      clear H
      go_enter Try.func13, Try.ntmps13
      go_wp2_with (first | ((with_reducible refine gate_callee (f := 28) rfl ?_); refine goesL_ (some 12) rfl rfl Try.func28 (by kernel_rfl) rfl #[] rfl (by (try simp only [List.map_toArray, List.map_cons, List.map_nil]); first | done | rfl | (simp only [List.length_drop, List.length_take]; rfl)) ?_; (with_reducible refine (tithebarnlaw18_lives_c.calls  true _ (by first | exact A3.out | (have z_ := A3.out; (try rw [← Nbq15.out] at z_); exact z_))).mono ?_); rintro e w7 ⟨rfl, hb⟩; refine ⟨_, rfl, ?_⟩; have n0_ := Aside0.mk (below_step (by repeat (first | (with_reducible first | exact HB.out | apply below_alloc | apply pw_below_drewN | apply below_drew1) | exact HB.out)) hb); clear HB; have HB := n0_; clear n0_; (try clear hb); (try clear hb2); (try clear hk); (try clear hi)) | ((with_reducible refine gate_callee (f := 32) rfl ?_); refine goesL_ (some 17) rfl rfl Try.func32 (by kernel_rfl) rfl #[.slice A0 l0.length c0, .int .i64 a1] rfl (by (try simp only [List.map_toArray, List.map_cons, List.map_nil]); first | done | rfl | (simp only [List.length_drop, List.length_take]; rfl)) ?_; (with_reducible refine (sums_Fold_c.calls _ _ l0 a1 t406 t407 t408 t409 t410 t411 t412 t413 t414 t415 _ ?side1 ?side2 (by first | exact A5.out | (have z_ := A5.out; (try rw [← Nbq15.out] at z_); exact z_))).mono ?_); (case side1 => repeat (first | exact (Kd.C_below HR0.out HB.out) | (with_reducible refine Kd.C_alloc ?_ _) | (with_reducible refine Kd.C_drewN ?_ _) | (with_reducible refine Kd.C_drew ?_))); (case side2 => exact HC0.out); rintro e w8 ⟨rfl, hb⟩; refine ⟨_, rfl, ?_⟩; have n0_ := Aside0.mk (below_step (by repeat (first | (with_reducible first | exact HB.out | apply below_alloc | apply pw_below_drewN | apply below_drew1) | exact HB.out)) hb); clear HB; have HB := n0_; clear n0_; (try clear hb); (try clear hb2); (try clear hk); (try clear hi)) | ((with_reducible refine gate_dst (N := 5) rfl ?_); refine box_event ?hg (N := 5) ?hd (cs := #[.int .i64 0, .int .i64 0, .int .i64 0, .bool false, .int .i64 0, .string (⟨#[]⟩ : ByteArray), .bool false, .int .i64 0, .string (⟨#[]⟩ : ByteArray)]) (t := 52) ?hr ?_; (case hd => rfl); (case hg => rfl); (case hr => first | (go_simp; done) | (go_simp; rfl)); intro gb416 hg w9 hbox hb; have n0_ := Aside0.mk (below_step (by repeat (first | (with_reducible first | exact HB.out | apply below_alloc | apply pw_below_drewN | apply below_drew1) | exact HB.out)) hb); have n1_ := Aside0.mk (hbox); have n2_ := Aside0.mk ((by rw [hg]; exact (below_size (by repeat (first | (with_reducible first | exact HB.out | apply below_alloc | apply pw_below_drewN | apply below_drew1) | exact HB.out))) : w.heap.size ≤ gb416)); have n3_ := Aside0.mk ((by rw [hg]; exact (below_size (by repeat (first | (with_reducible first | exact HB.out | apply below_alloc | apply pw_below_drewN | apply below_drew1) | exact HB.out))) : w.heap.size ≤ gb416)); clear HB; have HB := n0_; have BK416 := n1_; have GW416 := n2_; have GE416 := n3_; clear n0_ n1_ n2_ n3_; clear hb hbox hg; have hcz10_0 : w9.cell? ⟨gb416, 0, none⟩ = some (.int .i64 0) := (blk_cell BK416.out 0).trans rfl; have hcz10_1 : w9.cell? ⟨gb416, 1, none⟩ = some (.int .i64 0) := (blk_cell BK416.out 1).trans rfl; have hcz10_2 : w9.cell? ⟨gb416, 2, none⟩ = some (.int .i64 0) := (blk_cell BK416.out 2).trans rfl; have hcz10_3 : w9.cell? ⟨gb416, 3, none⟩ = some (.bool false) := (blk_cell BK416.out 3).trans rfl; have hcz10_4 : w9.cell? ⟨gb416, 4, none⟩ = some (.int .i64 0) := (blk_cell BK416.out 4).trans rfl; have hcz10_5 : w9.cell? ⟨gb416, 5, none⟩ = some (.string (⟨#[]⟩ : ByteArray)) := (blk_cell BK416.out 5).trans rfl; have hcz10_6 : w9.cell? ⟨gb416, 6, none⟩ = some (.bool false) := (blk_cell BK416.out 6).trans rfl; have hcz10_7 : w9.cell? ⟨gb416, 7, none⟩ = some (.int .i64 0) := (blk_cell BK416.out 7).trans rfl; have hcz10_8 : w9.cell? ⟨gb416, 8, none⟩ = some (.string (⟨#[]⟩ : ByteArray)) := (blk_cell BK416.out 8).trans rfl; have hfz10_0 := blk_frozen BK416.out 0; have hfz10_1 := blk_frozen BK416.out 1; have hfz10_2 := blk_frozen BK416.out 2; have hfz10_3 := blk_frozen BK416.out 3; have hfz10_4 := blk_frozen BK416.out 4; have hfz10_5 := blk_frozen BK416.out 5; have hfz10_6 := blk_frozen BK416.out 6; have hfz10_7 := blk_frozen BK416.out 7; have hfz10_8 := blk_frozen BK416.out 8))
      go_loopg [7, 8, 9, 10] k (fun kq v7 v8 v9 v10 w' => ∃ (x7_1 : Int) (x8_1 : Bool) (x9_1 : Bool) (x10_1 : Int), v7 = .int .i64 x7_1 ∧ v8 = .bool x8_1 ∧ v9 = .bool x9_1 ∧ v10 = .int .i64 x10_1 ∧ Aside0 (tithebarnlaw18_SumsBounds.l0 kq l0 a1 x7_1 x8_1 x9_1 x10_1 t406 t407 t408 t409 t410 t411 t412 t413 t414 = some r) ∧ Aside0 (kq ≤ k) ∧ Aside0 (w'.heap[gb416]? = some (.cells #[.int .i64 t406, .int .i64 t407, .int .i64 t408, .bool t409, .int .i64 t410, .string t411, .bool t412, .int .i64 t413, .string t414] 52 (0, 0))) ∧ Aside0 (Below w.heap.size w w'))
      case atStart => exact ⟨(0), (false), (false), (0), (by first | rfl | (simp; done) | (simp [*]; done)), (by first | rfl | (simp; done) | (simp [*]; done)), (by first | rfl | (simp; done) | (simp [*]; done)), (by first | rfl | (simp; done) | (simp [*]; done)), H', ⟨Nat.le_refl _⟩, ⟨by (with_reducible repeat (first | refine blk_drewN ?_ _ | refine blk_drew ?_ | refine blk_alloc ?_ _)); refine blk_put (cs := #[.int .i64 t406, .int .i64 t407, .int .i64 t408, .bool t409, .int .i64 t410, .string t411, .bool t412, .int .i64 t413, .string (⟨#[]⟩ : ByteArray)]) ?_ 8 _ rfl; (with_reducible repeat (first | refine blk_drewN ?_ _ | refine blk_drew ?_ | refine blk_alloc ?_ _)); refine blk_put (cs := #[.int .i64 t406, .int .i64 t407, .int .i64 t408, .bool t409, .int .i64 t410, .string t411, .bool t412, .int .i64 0, .string (⟨#[]⟩ : ByteArray)]) ?_ 7 _ rfl; (with_reducible repeat (first | refine blk_drewN ?_ _ | refine blk_drew ?_ | refine blk_alloc ?_ _)); refine blk_put (cs := #[.int .i64 t406, .int .i64 t407, .int .i64 t408, .bool t409, .int .i64 t410, .string t411, .bool false, .int .i64 0, .string (⟨#[]⟩ : ByteArray)]) ?_ 6 _ rfl; (with_reducible repeat (first | refine blk_drewN ?_ _ | refine blk_drew ?_ | refine blk_alloc ?_ _)); refine blk_put (cs := #[.int .i64 t406, .int .i64 t407, .int .i64 t408, .bool t409, .int .i64 t410, .string (⟨#[]⟩ : ByteArray), .bool false, .int .i64 0, .string (⟨#[]⟩ : ByteArray)]) ?_ 5 _ rfl; (with_reducible repeat (first | refine blk_drewN ?_ _ | refine blk_drew ?_ | refine blk_alloc ?_ _)); refine blk_put (cs := #[.int .i64 t406, .int .i64 t407, .int .i64 t408, .bool t409, .int .i64 0, .string (⟨#[]⟩ : ByteArray), .bool false, .int .i64 0, .string (⟨#[]⟩ : ByteArray)]) ?_ 4 _ rfl; (with_reducible repeat (first | refine blk_drewN ?_ _ | refine blk_drew ?_ | refine blk_alloc ?_ _)); refine blk_put (cs := #[.int .i64 t406, .int .i64 t407, .int .i64 t408, .bool false, .int .i64 0, .string (⟨#[]⟩ : ByteArray), .bool false, .int .i64 0, .string (⟨#[]⟩ : ByteArray)]) ?_ 3 _ rfl; (with_reducible repeat (first | refine blk_drewN ?_ _ | refine blk_drew ?_ | refine blk_alloc ?_ _)); refine blk_put (cs := #[.int .i64 t406, .int .i64 t407, .int .i64 0, .bool false, .int .i64 0, .string (⟨#[]⟩ : ByteArray), .bool false, .int .i64 0, .string (⟨#[]⟩ : ByteArray)]) ?_ 2 _ rfl; (with_reducible repeat (first | refine blk_drewN ?_ _ | refine blk_drew ?_ | refine blk_alloc ?_ _)); refine blk_put (cs := #[.int .i64 t406, .int .i64 0, .int .i64 0, .bool false, .int .i64 0, .string (⟨#[]⟩ : ByteArray), .bool false, .int .i64 0, .string (⟨#[]⟩ : ByteArray)]) ?_ 1 _ rfl; (with_reducible repeat (first | refine blk_drewN ?_ _ | refine blk_drew ?_ | refine blk_alloc ?_ _)); refine blk_put (cs := #[.int .i64 0, .int .i64 0, .int .i64 0, .bool false, .int .i64 0, .string (⟨#[]⟩ : ByteArray), .bool false, .int .i64 0, .string (⟨#[]⟩ : ByteArray)]) ?_ 0 _ rfl; (with_reducible repeat (first | refine blk_drewN ?_ _ | refine blk_drew ?_ | refine blk_alloc ?_ _)); exact BK416.out⟩, ⟨by repeat (first | (with_reducible first | exact HB.out | apply below_alloc | apply pw_below_drewN | apply below_drew1 | refine below_set ?_ GE416.out) | exact HB.out)⟩⟩
      case round =>
        clear H'
        try clear c1
        try clear c2
        try clear p2
        try clear c3
        try clear c4
        try clear c6
        try clear c6b0
        try clear c6b1
        try clear hcz10_0
        try clear hcz10_1
        try clear hcz10_2
        try clear hcz10_3
        try clear hcz10_4
        try clear hcz10_5
        try clear hcz10_6
        try clear hcz10_7
        try clear hcz10_8
        try clear hfz10_0
        try clear hfz10_1
        try clear hfz10_2
        try clear hfz10_3
        try clear hfz10_4
        try clear hfz10_5
        try clear hfz10_6
        try clear hfz10_7
        try clear hfz10_8
        obtain ⟨x7_1, x8_1, x9_1, x10_1, rfl, rfl, rfl, rfl, HA, HK1, BK416, HB⟩ := hrel
        cases gk with
        | zero => exact absurd HA.out (by simp [tithebarnlaw18_SumsBounds.l0])
        | succ k1 =>
          have H := HA.out
          clear HA
          simp only [tithebarnlaw18_SumsBounds.l0] at H
          by_cases c11 : x10_1 < (l0.length : Int)
          · rw [if_pos c11] at H
            have c11b0 : decide (x10_1 < (l0.length : Int)) = true := decide_eq_true c11
            clear c11
            by_cases c12 : 0 ≤ x10_1
            · rw [if_pos c12] at H
              have c12b0 : decide (0 ≤ x10_1) = true := decide_eq_true c12
              clear c12
              by_cases c13 : 0 ≤ a1
              · rw [if_pos c13] at H
                have c13b0 : decide (0 ≤ a1) = true := decide_eq_true c13
                clear c13
                by_cases c14 : a1 < ((rd_L6 l0 x10_1).length : Int)
                · rw [if_pos c14] at H
                  have c14b0 : decide (a1 < ((rd_L6 l0 x10_1).length : Int)) = true := decide_eq_true c14
                  clear c14
                  obtain ⟨bq15, hbq15⟩ : ∃ b_ : Bool, b_ = ((rd_T23 (rd_L6 l0 x10_1) a1).f0) := ⟨_, rfl⟩
                  replace H : (if bq15 = true then (tithebarnlaw18_SumsBounds.l0 k1 l0 a1 x7_1 x8_1 x9_1 (wrap64 (x10_1 + 1)) t406 t407 t408 t409 t410 t411 t412 t413 t414) else (if x8_1 = true then (tithebarnlaw18_SumsBounds.j1 k1 l0 a1 (wrap64 (x7_1 + 1)) true x9_1 x10_1 t406 t407 t408 t409 t410 t411 t412 t413 t414 bq15 ((rd_T23 (rd_L6 l0 x10_1) a1).f1) ((rd_T23 (rd_L6 l0 x10_1) a1).f2)) else (tithebarnlaw18_SumsBounds.j1 k1 l0 a1 (wrap64 (x7_1 + 1)) ((bq15) == t409 && (((rd_T23 (rd_L6 l0 x10_1) a1).f1) == t410 && ((((rd_T23 (rd_L6 l0 x10_1) a1).f2).toList) == t411.toList))) x9_1 x10_1 t406 t407 t408 t409 t410 t411 t412 t413 t414 bq15 ((rd_T23 (rd_L6 l0 x10_1) a1).f1) ((rd_T23 (rd_L6 l0 x10_1) a1).f2)))) = some r := by rw [← hbq15] at H; exact H
                  have Nbq15 := Aside0.mk hbq15
                  clear hbq15
                  by_cases c16 : bq15 = true
                  · subst c16
                    have H1 : (tithebarnlaw18_SumsBounds.l0 k1 l0 a1 x7_1 x8_1 x9_1 (wrap64 (x10_1 + 1)) t406 t407 t408 t409 t410 t411 t412 t413 t414) = some r := by rw [if_pos rfl] at H; exact H
                    clear H
                    have H := H1
                    clear H1
                    have H' := Aside0.mk H
                    clear H
                    have p417 : 0 ≤ (x10_1 : Int) := of_decide_eq_true (by first | (with_reducible assumption) | assumption)
                    have q417 : x10_1 < (l0.length : Int) := of_decide_eq_true (by first | (with_reducible assumption) | assumption)
                    obtain ⟨ad417, A417_0, c417_0, e417, hx417_0, hl417_0, hi417_0⟩ := at_L6 HR0.out x10_1 p417 q417
                    cases e417
                    replace hx417_0 := (HB.out.cell (World.block_lt_of_cell? w _ hx417_0)).trans hx417_0
                    have HR417_0 := Aside0.mk hi417_0
                    have HC417_0 := Aside0.mk hl417_0
                    clear hi417_0 hl417_0
                    replace p417 := eq_true p417
                    replace q417 := eq_true q417
                    have p418 : 0 ≤ (a1 : Int) := of_decide_eq_true (by first | (with_reducible assumption) | assumption)
                    have q418 : a1 < ((rd_L6 l0 x10_1).length : Int) := of_decide_eq_true (by first | (with_reducible assumption) | assumption)
                    obtain ⟨ad418, e418, hx418_0, hx418_1, hx418_2⟩ := at_T23 HR417_0.out a1 p418 q418
                    (try rw [← Nbq15.out] at hx418_0)
                    cases e418
                    replace hx418_0 := (HB.out.cell (World.block_lt_of_cell? w _ hx418_0)).trans hx418_0
                    replace hx418_1 := (HB.out.cell (World.block_lt_of_cell? w _ hx418_1)).trans hx418_1
                    replace hx418_2 := (HB.out.cell (World.block_lt_of_cell? w _ hx418_2)).trans hx418_2
                    replace p418 := eq_true p418
                    replace q418 := eq_true q418
                    go_wp2_with (first | ((with_reducible refine gate_dst (N := 11) rfl ?_); refine box_event ?hg (N := 11) ?hd (cs := #[.bool false, .int .i64 0, .string (⟨#[]⟩ : ByteArray)]) (t := 23) ?hr ?_; (case hd => rfl); (case hg => rfl); (case hr => first | (go_simp; done) | (go_simp; rfl)); intro gb419 hg w17 hbox hb; have n0_ := Aside0.mk (blk_below (g := gb416) (o := .cells #[.int .i64 t406, .int .i64 t407, .int .i64 t408, .bool t409, .int .i64 t410, .string t411, .bool t412, .int .i64 t413, .string t414] 52 (0, 0)) (by (with_reducible repeat (first | refine blk_drewN ?_ _ | refine blk_drew ?_ | refine blk_alloc ?_ _)); exact BK416.out) hb); have n1_ := Aside0.mk (below_step (by repeat (first | (with_reducible first | exact HB.out | apply below_alloc | apply pw_below_drewN | apply below_drew1 | refine below_set ?_ GE416.out) | exact HB.out)) hb); have n2_ := Aside0.mk (hbox); have n3_ := Aside0.mk ((by rw [hg]; exact (below_size (by repeat (first | (with_reducible first | exact HB.out | apply below_alloc | apply pw_below_drewN | apply below_drew1 | refine below_set ?_ GE416.out) | exact HB.out))) : w.heap.size ≤ gb419)); have n4_ := Aside0.mk ((by rw [hg]; exact (below_size (by repeat (first | (with_reducible first | exact HB.out | apply below_alloc | apply pw_below_drewN | apply below_drew1 | refine below_set ?_ GE416.out) | exact HB.out))) : w.heap.size ≤ gb419)); have n5_ := Aside0.mk ((by rw [hg]; exact Nat.ne_of_lt (blk_lt (g := gb416) (o := .cells #[.int .i64 t406, .int .i64 t407, .int .i64 t408, .bool t409, .int .i64 t410, .string t411, .bool t412, .int .i64 t413, .string t414] 52 (0, 0)) (by (with_reducible repeat (first | refine blk_drewN ?_ _ | refine blk_drew ?_ | refine blk_alloc ?_ _)); exact BK416.out)) : gb416 ≠ gb419)); have n6_ := Aside0.mk ((by rw [hg]; exact Nat.ne_of_gt (blk_lt (g := gb416) (o := .cells #[.int .i64 t406, .int .i64 t407, .int .i64 t408, .bool t409, .int .i64 t410, .string t411, .bool t412, .int .i64 t413, .string t414] 52 (0, 0)) (by (with_reducible repeat (first | refine blk_drewN ?_ _ | refine blk_drew ?_ | refine blk_alloc ?_ _)); exact BK416.out)) : gb419 ≠ gb416)); clear BK416; clear HB; have BK416 := n0_; have HB := n1_; have BK419 := n2_; have GW419 := n3_; have GE419 := n4_; have NB416_419 := n5_; have NB419_416 := n6_; clear n0_ n1_ n2_ n3_ n4_ n5_ n6_; clear hb hbox hg; have hnb18 := NB419_416.out; have hnc18 := NB416_419.out; have hcz19_0 : w17.cell? ⟨gb419, 0, none⟩ = some (.bool false) := (blk_cell BK419.out 0).trans rfl; have hcz19_1 : w17.cell? ⟨gb419, 1, none⟩ = some (.int .i64 0) := (blk_cell BK419.out 1).trans rfl; have hcz19_2 : w17.cell? ⟨gb419, 2, none⟩ = some (.string (⟨#[]⟩ : ByteArray)) := (blk_cell BK419.out 2).trans rfl; have hfz19_0 := blk_frozen BK419.out 0; have hfz19_1 := blk_frozen BK419.out 1; have hfz19_2 := blk_frozen BK419.out 2))
                    go_roundg k1
                    case measure => have := HK1.out; omega
                    case rel => exact ⟨(x7_1), (x8_1), (x9_1), (wrap64 (x10_1 + 1)), (by first | rfl | (simp; done) | (simp [*]; done)), (by first | rfl | (simp; done) | (simp [*]; done)), (by first | rfl | (simp; done) | (simp [*]; done)), (by first | rfl | (simp; done) | (simp [*]; done)), H', ⟨by have := HK1.out; omega⟩, ⟨by (with_reducible repeat (first | refine blk_drewN ?_ _ | refine blk_drew ?_ | refine blk_alloc ?_ _)); refine blk_far ?_ NB416_419.out _; (with_reducible repeat (first | refine blk_drewN ?_ _ | refine blk_drew ?_ | refine blk_alloc ?_ _)); refine blk_far ?_ NB416_419.out _; (with_reducible repeat (first | refine blk_drewN ?_ _ | refine blk_drew ?_ | refine blk_alloc ?_ _)); refine blk_far ?_ NB416_419.out _; (with_reducible repeat (first | refine blk_drewN ?_ _ | refine blk_drew ?_ | refine blk_alloc ?_ _)); exact BK416.out⟩, ⟨by repeat (first | (with_reducible first | exact HB.out | apply below_alloc | apply pw_below_drewN | apply below_drew1 | refine below_set ?_ GE416.out | refine below_set ?_ GE419.out) | exact HB.out)⟩⟩
                  · replace c16 := Bool.eq_false_iff.mpr c16
                    subst c16
                    have H1 : (if x8_1 = true then (tithebarnlaw18_SumsBounds.j1 k1 l0 a1 (wrap64 (x7_1 + 1)) true x9_1 x10_1 t406 t407 t408 t409 t410 t411 t412 t413 t414 false ((rd_T23 (rd_L6 l0 x10_1) a1).f1) ((rd_T23 (rd_L6 l0 x10_1) a1).f2)) else (tithebarnlaw18_SumsBounds.j1 k1 l0 a1 (wrap64 (x7_1 + 1)) ((false) == t409 && (((rd_T23 (rd_L6 l0 x10_1) a1).f1) == t410 && ((((rd_T23 (rd_L6 l0 x10_1) a1).f2).toList) == t411.toList))) x9_1 x10_1 t406 t407 t408 t409 t410 t411 t412 t413 t414 false ((rd_T23 (rd_L6 l0 x10_1) a1).f1) ((rd_T23 (rd_L6 l0 x10_1) a1).f2))) = some r := by rw [if_neg (show ¬ (false = true) by decide)] at H; exact H
                    clear H
                    have H := H1
                    clear H1
                    have HC20 := Aside0.mk H
                    clear H
                    have p417 : 0 ≤ (x10_1 : Int) := of_decide_eq_true (by first | (with_reducible assumption) | assumption)
                    have q417 : x10_1 < (l0.length : Int) := of_decide_eq_true (by first | (with_reducible assumption) | assumption)
                    obtain ⟨ad417, A417_0, c417_0, e417, hx417_0, hl417_0, hi417_0⟩ := at_L6 HR0.out x10_1 p417 q417
                    cases e417
                    replace hx417_0 := (HB.out.cell (World.block_lt_of_cell? w _ hx417_0)).trans hx417_0
                    have HR417_0 := Aside0.mk hi417_0
                    have HC417_0 := Aside0.mk hl417_0
                    clear hi417_0 hl417_0
                    replace p417 := eq_true p417
                    replace q417 := eq_true q417
                    have p418 : 0 ≤ (a1 : Int) := of_decide_eq_true (by first | (with_reducible assumption) | assumption)
                    have q418 : a1 < ((rd_L6 l0 x10_1).length : Int) := of_decide_eq_true (by first | (with_reducible assumption) | assumption)
                    obtain ⟨ad418, e418, hx418_0, hx418_1, hx418_2⟩ := at_T23 HR417_0.out a1 p418 q418
                    (try rw [← Nbq15.out] at hx418_0)
                    cases e418
                    replace hx418_0 := (HB.out.cell (World.block_lt_of_cell? w _ hx418_0)).trans hx418_0
                    replace hx418_1 := (HB.out.cell (World.block_lt_of_cell? w _ hx418_1)).trans hx418_1
                    replace hx418_2 := (HB.out.cell (World.block_lt_of_cell? w _ hx418_2)).trans hx418_2
                    replace p418 := eq_true p418
                    replace q418 := eq_true q418
                    go_upto_region 13 with (first | ((with_reducible refine gate_dst (N := 11) rfl ?_); refine box_event ?hg (N := 11) ?hd (cs := #[.bool false, .int .i64 0, .string (⟨#[]⟩ : ByteArray)]) (t := 23) ?hr ?_; (case hd => rfl); (case hg => rfl); (case hr => first | (go_simp; done) | (go_simp; rfl)); intro gb419 hg w21 hbox hb; have n0_ := Aside0.mk (blk_below (g := gb416) (o := .cells #[.int .i64 t406, .int .i64 t407, .int .i64 t408, .bool t409, .int .i64 t410, .string t411, .bool t412, .int .i64 t413, .string t414] 52 (0, 0)) (by (with_reducible repeat (first | refine blk_drewN ?_ _ | refine blk_drew ?_ | refine blk_alloc ?_ _)); exact BK416.out) hb); have n1_ := Aside0.mk (below_step (by repeat (first | (with_reducible first | exact HB.out | apply below_alloc | apply pw_below_drewN | apply below_drew1 | refine below_set ?_ GE416.out) | exact HB.out)) hb); have n2_ := Aside0.mk (hbox); have n3_ := Aside0.mk ((by rw [hg]; exact (below_size (by repeat (first | (with_reducible first | exact HB.out | apply below_alloc | apply pw_below_drewN | apply below_drew1 | refine below_set ?_ GE416.out) | exact HB.out))) : w.heap.size ≤ gb419)); have n4_ := Aside0.mk ((by rw [hg]; exact (below_size (by repeat (first | (with_reducible first | exact HB.out | apply below_alloc | apply pw_below_drewN | apply below_drew1 | refine below_set ?_ GE416.out) | exact HB.out))) : w.heap.size ≤ gb419)); have n5_ := Aside0.mk ((by rw [hg]; exact Nat.ne_of_lt (blk_lt (g := gb416) (o := .cells #[.int .i64 t406, .int .i64 t407, .int .i64 t408, .bool t409, .int .i64 t410, .string t411, .bool t412, .int .i64 t413, .string t414] 52 (0, 0)) (by (with_reducible repeat (first | refine blk_drewN ?_ _ | refine blk_drew ?_ | refine blk_alloc ?_ _)); exact BK416.out)) : gb416 ≠ gb419)); have n6_ := Aside0.mk ((by rw [hg]; exact Nat.ne_of_gt (blk_lt (g := gb416) (o := .cells #[.int .i64 t406, .int .i64 t407, .int .i64 t408, .bool t409, .int .i64 t410, .string t411, .bool t412, .int .i64 t413, .string t414] 52 (0, 0)) (by (with_reducible repeat (first | refine blk_drewN ?_ _ | refine blk_drew ?_ | refine blk_alloc ?_ _)); exact BK416.out)) : gb419 ≠ gb416)); clear BK416; clear HB; have BK416 := n0_; have HB := n1_; have BK419 := n2_; have GW419 := n3_; have GE419 := n4_; have NB416_419 := n5_; have NB419_416 := n6_; clear n0_ n1_ n2_ n3_ n4_ n5_ n6_; clear hb hbox hg; have hnb22 := NB419_416.out; have hnc22 := NB416_419.out; have hcz23_0 : w21.cell? ⟨gb419, 0, none⟩ = some (.bool false) := (blk_cell BK419.out 0).trans rfl; have hcz23_1 : w21.cell? ⟨gb419, 1, none⟩ = some (.int .i64 0) := (blk_cell BK419.out 1).trans rfl; have hcz23_2 : w21.cell? ⟨gb419, 2, none⟩ = some (.string (⟨#[]⟩ : ByteArray)) := (blk_cell BK419.out 2).trans rfl; have hfz23_0 := blk_frozen BK419.out 0; have hfz23_1 := blk_frozen BK419.out 1; have hfz23_2 := blk_frozen BK419.out 2))
                    (try simp only [Act.put, List.setIfInBounds_toArray, List.set_cons_zero, List.set_cons_succ])
                    go_cut [8] (fun v8 wc => ∃ (kq : Nat) (x8_19 : Bool), v8 = .bool x8_19 ∧ Aside0 (tithebarnlaw18_SumsBounds.j1 kq l0 a1 (wrap64 (x7_1 + 1)) x8_19 x9_1 x10_1 t406 t407 t408 t409 t410 t411 t412 t413 t414 false ((rd_T23 (rd_L6 l0 x10_1) a1).f1) ((rd_T23 (rd_L6 l0 x10_1) a1).f2) = some r) ∧ Aside0 (kq ≤ k1) ∧ Aside0 (wc.heap[gb416]? = some (.cells #[.int .i64 t406, .int .i64 t407, .int .i64 t408, .bool t409, .int .i64 t410, .string t411, .bool t412, .int .i64 t413, .string t414] 52 (0, 0))) ∧ Aside0 (wc.heap[gb419]? = some (.cells #[.bool false, .int .i64 ((rd_T23 (rd_L6 l0 x10_1) a1).f1), .string ((rd_T23 (rd_L6 l0 x10_1) a1).f2)] 23 (0, 0))) ∧ Aside0 (Below w.heap.size w wc))
                    case first =>
                      have H := HC20.out
                      clear HC20
                      by_cases c24 : x8_1 = true
                      · subst c24
                        have H1 : (tithebarnlaw18_SumsBounds.j1 k1 l0 a1 (wrap64 (x7_1 + 1)) true x9_1 x10_1 t406 t407 t408 t409 t410 t411 t412 t413 t414 false ((rd_T23 (rd_L6 l0 x10_1) a1).f1) ((rd_T23 (rd_L6 l0 x10_1) a1).f2)) = some r := by rw [if_pos rfl] at H; exact H
                        clear H
                        have H := H1
                        clear H1
                        have H' := Aside0.mk H
                        clear H
                        go_wp2
                        go_meet
                        case rel => exact ⟨_, (true), (by first | rfl | (simp; done) | (simp [*]; done)), H', ⟨by have := HK1.out; first | omega | exact Nat.le_refl _⟩, ⟨by (with_reducible repeat (first | refine blk_drewN ?_ _ | refine blk_drew ?_ | refine blk_alloc ?_ _)); refine blk_far ?_ NB416_419.out _; (with_reducible repeat (first | refine blk_drewN ?_ _ | refine blk_drew ?_ | refine blk_alloc ?_ _)); refine blk_far ?_ NB416_419.out _; (with_reducible repeat (first | refine blk_drewN ?_ _ | refine blk_drew ?_ | refine blk_alloc ?_ _)); refine blk_far ?_ NB416_419.out _; (with_reducible repeat (first | refine blk_drewN ?_ _ | refine blk_drew ?_ | refine blk_alloc ?_ _)); exact BK416.out⟩, ⟨by (with_reducible repeat (first | refine blk_drewN ?_ _ | refine blk_drew ?_ | refine blk_alloc ?_ _)); refine blk_put (cs := #[.bool false, .int .i64 ((rd_T23 (rd_L6 l0 x10_1) a1).f1), .string (⟨#[]⟩ : ByteArray)]) ?_ 2 _ rfl; (with_reducible repeat (first | refine blk_drewN ?_ _ | refine blk_drew ?_ | refine blk_alloc ?_ _)); refine blk_put (cs := #[.bool false, .int .i64 0, .string (⟨#[]⟩ : ByteArray)]) ?_ 1 _ rfl; (with_reducible repeat (first | refine blk_drewN ?_ _ | refine blk_drew ?_ | refine blk_alloc ?_ _)); refine blk_put (cs := #[.bool false, .int .i64 0, .string (⟨#[]⟩ : ByteArray)]) ?_ 0 _ rfl; (with_reducible repeat (first | refine blk_drewN ?_ _ | refine blk_drew ?_ | refine blk_alloc ?_ _)); exact BK419.out⟩, ⟨by repeat (first | (with_reducible first | exact HB.out | apply below_alloc | apply pw_below_drewN | apply below_drew1 | refine below_set ?_ GE416.out | refine below_set ?_ GE419.out) | exact HB.out)⟩⟩
                      · replace c24 := Bool.eq_false_iff.mpr c24
                        subst c24
                        have H1 : (tithebarnlaw18_SumsBounds.j1 k1 l0 a1 (wrap64 (x7_1 + 1)) ((false) == t409 && (((rd_T23 (rd_L6 l0 x10_1) a1).f1) == t410 && ((((rd_T23 (rd_L6 l0 x10_1) a1).f2).toList) == t411.toList))) x9_1 x10_1 t406 t407 t408 t409 t410 t411 t412 t413 t414 false ((rd_T23 (rd_L6 l0 x10_1) a1).f1) ((rd_T23 (rd_L6 l0 x10_1) a1).f2)) = some r := by rw [if_neg (show ¬ (false = true) by decide)] at H; exact H
                        clear H
                        have H := H1
                        clear H1
                        have H' := Aside0.mk H
                        clear H
                        have hnb25 := NB419_416.out
                        have hnc25 := NB416_419.out
                        have hcz26_0 : w21.cell? ⟨gb419, 0, none⟩ = some (.bool false) := (blk_cell BK419.out 0).trans rfl
                        have hcz26_1 : w21.cell? ⟨gb419, 1, none⟩ = some (.int .i64 0) := (blk_cell BK419.out 1).trans rfl
                        have hcz26_2 : w21.cell? ⟨gb419, 2, none⟩ = some (.string (⟨#[]⟩ : ByteArray)) := (blk_cell BK419.out 2).trans rfl
                        have hfz26_0 := blk_frozen BK419.out 0
                        have hfz26_1 := blk_frozen BK419.out 1
                        have hfz26_2 := blk_frozen BK419.out 2
                        have hcz27_0 : w21.cell? ⟨gb416, 0, none⟩ = some (.int .i64 t406) := (blk_cell BK416.out 0).trans rfl
                        have hcz27_1 : w21.cell? ⟨gb416, 1, none⟩ = some (.int .i64 t407) := (blk_cell BK416.out 1).trans rfl
                        have hcz27_2 : w21.cell? ⟨gb416, 2, none⟩ = some (.int .i64 t408) := (blk_cell BK416.out 2).trans rfl
                        have hcz27_3 : w21.cell? ⟨gb416, 3, none⟩ = some (.bool t409) := (blk_cell BK416.out 3).trans rfl
                        have hcz27_4 : w21.cell? ⟨gb416, 4, none⟩ = some (.int .i64 t410) := (blk_cell BK416.out 4).trans rfl
                        have hcz27_5 : w21.cell? ⟨gb416, 5, none⟩ = some (.string t411) := (blk_cell BK416.out 5).trans rfl
                        have hcz27_6 : w21.cell? ⟨gb416, 6, none⟩ = some (.bool t412) := (blk_cell BK416.out 6).trans rfl
                        have hcz27_7 : w21.cell? ⟨gb416, 7, none⟩ = some (.int .i64 t413) := (blk_cell BK416.out 7).trans rfl
                        have hcz27_8 : w21.cell? ⟨gb416, 8, none⟩ = some (.string t414) := (blk_cell BK416.out 8).trans rfl
                        have hfz27_0 := blk_frozen BK416.out 0
                        have hfz27_1 := blk_frozen BK416.out 1
                        have hfz27_2 := blk_frozen BK416.out 2
                        have hfz27_3 := blk_frozen BK416.out 3
                        have hfz27_4 := blk_frozen BK416.out 4
                        have hfz27_5 := blk_frozen BK416.out 5
                        have hfz27_6 := blk_frozen BK416.out 6
                        have hfz27_7 := blk_frozen BK416.out 7
                        have hfz27_8 := blk_frozen BK416.out 8
                        go_wp2
                        go_meet
                        case rel => exact ⟨_, (((false) == t409 && (((rd_T23 (rd_L6 l0 x10_1) a1).f1) == t410 && ((((rd_T23 (rd_L6 l0 x10_1) a1).f2).toList) == t411.toList)))), (by first | rfl | (simp; done) | (simp [*]; done)), H', ⟨by have := HK1.out; first | omega | exact Nat.le_refl _⟩, ⟨by (with_reducible repeat (first | refine blk_drewN ?_ _ | refine blk_drew ?_ | refine blk_alloc ?_ _)); refine blk_far ?_ NB416_419.out _; (with_reducible repeat (first | refine blk_drewN ?_ _ | refine blk_drew ?_ | refine blk_alloc ?_ _)); refine blk_far ?_ NB416_419.out _; (with_reducible repeat (first | refine blk_drewN ?_ _ | refine blk_drew ?_ | refine blk_alloc ?_ _)); refine blk_far ?_ NB416_419.out _; (with_reducible repeat (first | refine blk_drewN ?_ _ | refine blk_drew ?_ | refine blk_alloc ?_ _)); exact BK416.out⟩, ⟨by (with_reducible repeat (first | refine blk_drewN ?_ _ | refine blk_drew ?_ | refine blk_alloc ?_ _)); refine blk_put (cs := #[.bool false, .int .i64 ((rd_T23 (rd_L6 l0 x10_1) a1).f1), .string (⟨#[]⟩ : ByteArray)]) ?_ 2 _ rfl; (with_reducible repeat (first | refine blk_drewN ?_ _ | refine blk_drew ?_ | refine blk_alloc ?_ _)); refine blk_put (cs := #[.bool false, .int .i64 0, .string (⟨#[]⟩ : ByteArray)]) ?_ 1 _ rfl; (with_reducible repeat (first | refine blk_drewN ?_ _ | refine blk_drew ?_ | refine blk_alloc ?_ _)); refine blk_put (cs := #[.bool false, .int .i64 0, .string (⟨#[]⟩ : ByteArray)]) ?_ 0 _ rfl; (with_reducible repeat (first | refine blk_drewN ?_ _ | refine blk_drew ?_ | refine blk_alloc ?_ _)); exact BK419.out⟩, ⟨by repeat (first | (with_reducible first | exact HB.out | apply below_alloc | apply pw_below_drewN | apply below_drew1 | refine below_set ?_ GE416.out | refine below_set ?_ GE419.out) | exact HB.out)⟩⟩
                    case rest =>
                      clear HC20
                      try clear c1
                      try clear q1
                      try clear c2
                      try clear p2
                      try clear c3
                      try clear c4
                      try clear p4
                      try clear q4
                      try clear hx4
                      try clear c6
                      try clear c6b0
                      try clear c6b1
                      try clear p6
                      try clear c11
                      try clear c11b0
                      try clear c12
                      try clear c12b0
                      try clear c13
                      try clear c13b0
                      try clear c14
                      try clear c14b0
                      try clear q15
                      try clear c16
                      try clear c18
                      try clear c22
                      try clear c24
                      try clear c25
                      try clear hcz10_0
                      try clear hcz10_1
                      try clear hcz10_2
                      try clear hcz10_3
                      try clear hcz10_4
                      try clear hcz10_5
                      try clear hcz10_6
                      try clear hcz10_7
                      try clear hcz10_8
                      try clear hcz19_0
                      try clear hcz19_1
                      try clear hcz19_2
                      try clear hcz23_0
                      try clear hcz23_1
                      try clear hcz23_2
                      try clear hcz26_0
                      try clear hcz26_1
                      try clear hcz26_2
                      try clear hcz27_0
                      try clear hcz27_1
                      try clear hcz27_2
                      try clear hcz27_3
                      try clear hcz27_4
                      try clear hcz27_5
                      try clear hcz27_6
                      try clear hcz27_7
                      try clear hcz27_8
                      try clear hfz10_0
                      try clear hfz10_1
                      try clear hfz10_2
                      try clear hfz10_3
                      try clear hfz10_4
                      try clear hfz10_5
                      try clear hfz10_6
                      try clear hfz10_7
                      try clear hfz10_8
                      try clear hfz19_0
                      try clear hfz19_1
                      try clear hfz19_2
                      try clear hfz23_0
                      try clear hfz23_1
                      try clear hfz23_2
                      try clear hfz26_0
                      try clear hfz26_1
                      try clear hfz26_2
                      try clear hfz27_0
                      try clear hfz27_1
                      try clear hfz27_2
                      try clear hfz27_3
                      try clear hfz27_4
                      try clear hfz27_5
                      try clear hfz27_6
                      try clear hfz27_7
                      try clear hfz27_8
                      try clear hx417_0
                      try clear hx418_0
                      try clear hx418_1
                      try clear hx418_2
                      try clear p2
                      try clear p417
                      try clear p418
                      try clear q417
                      try clear q418
                      obtain ⟨kq, x8_19, rfl, HA, HJ19, BK416, BK419, HB⟩ := hcut
                      cases kq with
                      | zero => exact absurd HA.out (by simp [tithebarnlaw18_SumsBounds.j1])
                      | succ kj19 =>
                        have H := HA.out
                        clear HA
                        simp only [tithebarnlaw18_SumsBounds.j1] at H
                        have HC28 := Aside0.mk H
                        clear H
                        go_upto_region 14 with (fail)
                        go_cut [9] (fun v9 wc => ∃ (kq : Nat) (x9_27 : Bool), v9 = .bool x9_27 ∧ Aside0 (tithebarnlaw18_SumsBounds.j2 kq l0 a1 (wrap64 (x7_1 + 1)) x8_19 x9_27 x10_1 t406 t407 t408 t409 t410 t411 t412 t413 t414 false ((rd_T23 (rd_L6 l0 x10_1) a1).f1) ((rd_T23 (rd_L6 l0 x10_1) a1).f2) = some r) ∧ Aside0 (kq ≤ kj19) ∧ Aside0 (wc.heap[gb416]? = some (.cells #[.int .i64 t406, .int .i64 t407, .int .i64 t408, .bool t409, .int .i64 t410, .string t411, .bool t412, .int .i64 t413, .string t414] 52 (0, 0))) ∧ Aside0 (wc.heap[gb419]? = some (.cells #[.bool false, .int .i64 ((rd_T23 (rd_L6 l0 x10_1) a1).f1), .string ((rd_T23 (rd_L6 l0 x10_1) a1).f2)] 23 (0, 0))) ∧ Aside0 (Below w.heap.size w wc))
                        case first =>
                          have H := HC28.out
                          clear HC28
                          by_cases c29 : x9_1 = true
                          · subst c29
                            have H1 : (tithebarnlaw18_SumsBounds.j2 kj19 l0 a1 (wrap64 (x7_1 + 1)) x8_19 true x10_1 t406 t407 t408 t409 t410 t411 t412 t413 t414 false ((rd_T23 (rd_L6 l0 x10_1) a1).f1) ((rd_T23 (rd_L6 l0 x10_1) a1).f2)) = some r := by rw [if_pos rfl] at H; exact H
                            clear H
                            have H := H1
                            clear H1
                            have H' := Aside0.mk H
                            clear H
                            go_wp2
                            go_meet
                            case rel => exact ⟨_, (true), (by first | rfl | (simp; done) | (simp [*]; done)), H', ⟨by have := HK1.out; have := HJ19.out; first | omega | exact Nat.le_refl _⟩, ⟨by (with_reducible repeat (first | refine blk_drewN ?_ _ | refine blk_drew ?_ | refine blk_alloc ?_ _)); exact BK416.out⟩, ⟨by (with_reducible repeat (first | refine blk_drewN ?_ _ | refine blk_drew ?_ | refine blk_alloc ?_ _)); exact BK419.out⟩, ⟨by repeat (first | (with_reducible first | exact HB.out | apply below_alloc | apply pw_below_drewN | apply below_drew1 | refine below_set ?_ GE416.out | refine below_set ?_ GE419.out) | exact HB.out)⟩⟩
                          · replace c29 := Bool.eq_false_iff.mpr c29
                            subst c29
                            have H1 : (tithebarnlaw18_SumsBounds.j2 kj19 l0 a1 (wrap64 (x7_1 + 1)) x8_19 (false == t412 && (((rd_T23 (rd_L6 l0 x10_1) a1).f1) == t413 && (((rd_T23 (rd_L6 l0 x10_1) a1).f2).toList == t414.toList))) x10_1 t406 t407 t408 t409 t410 t411 t412 t413 t414 false ((rd_T23 (rd_L6 l0 x10_1) a1).f1) ((rd_T23 (rd_L6 l0 x10_1) a1).f2)) = some r := by rw [if_neg (show ¬ (false = true) by decide)] at H; exact H
                            clear H
                            have H := H1
                            clear H1
                            have H' := Aside0.mk H
                            clear H
                            have hnb30 := NB419_416.out
                            have hnc30 := NB416_419.out
                            have hcz31_0 : wc.cell? ⟨gb419, 0, none⟩ = some (.bool false) := (blk_cell BK419.out 0).trans rfl
                            have hcz31_1 : wc.cell? ⟨gb419, 1, none⟩ = some (.int .i64 ((rd_T23 (rd_L6 l0 x10_1) a1).f1)) := (blk_cell BK419.out 1).trans rfl
                            have hcz31_2 : wc.cell? ⟨gb419, 2, none⟩ = some (.string ((rd_T23 (rd_L6 l0 x10_1) a1).f2)) := (blk_cell BK419.out 2).trans rfl
                            have hfz31_0 := blk_frozen BK419.out 0
                            have hfz31_1 := blk_frozen BK419.out 1
                            have hfz31_2 := blk_frozen BK419.out 2
                            have hcz32_0 : wc.cell? ⟨gb416, 0, none⟩ = some (.int .i64 t406) := (blk_cell BK416.out 0).trans rfl
                            have hcz32_1 : wc.cell? ⟨gb416, 1, none⟩ = some (.int .i64 t407) := (blk_cell BK416.out 1).trans rfl
                            have hcz32_2 : wc.cell? ⟨gb416, 2, none⟩ = some (.int .i64 t408) := (blk_cell BK416.out 2).trans rfl
                            have hcz32_3 : wc.cell? ⟨gb416, 3, none⟩ = some (.bool t409) := (blk_cell BK416.out 3).trans rfl
                            have hcz32_4 : wc.cell? ⟨gb416, 4, none⟩ = some (.int .i64 t410) := (blk_cell BK416.out 4).trans rfl
                            have hcz32_5 : wc.cell? ⟨gb416, 5, none⟩ = some (.string t411) := (blk_cell BK416.out 5).trans rfl
                            have hcz32_6 : wc.cell? ⟨gb416, 6, none⟩ = some (.bool t412) := (blk_cell BK416.out 6).trans rfl
                            have hcz32_7 : wc.cell? ⟨gb416, 7, none⟩ = some (.int .i64 t413) := (blk_cell BK416.out 7).trans rfl
                            have hcz32_8 : wc.cell? ⟨gb416, 8, none⟩ = some (.string t414) := (blk_cell BK416.out 8).trans rfl
                            have hfz32_0 := blk_frozen BK416.out 0
                            have hfz32_1 := blk_frozen BK416.out 1
                            have hfz32_2 := blk_frozen BK416.out 2
                            have hfz32_3 := blk_frozen BK416.out 3
                            have hfz32_4 := blk_frozen BK416.out 4
                            have hfz32_5 := blk_frozen BK416.out 5
                            have hfz32_6 := blk_frozen BK416.out 6
                            have hfz32_7 := blk_frozen BK416.out 7
                            have hfz32_8 := blk_frozen BK416.out 8
                            go_wp2
                            go_meet
                            case rel => exact ⟨_, ((false == t412 && (((rd_T23 (rd_L6 l0 x10_1) a1).f1) == t413 && (((rd_T23 (rd_L6 l0 x10_1) a1).f2).toList == t414.toList)))), (by first | rfl | (simp; done) | (simp [*]; done)), H', ⟨by have := HK1.out; have := HJ19.out; first | omega | exact Nat.le_refl _⟩, ⟨by (with_reducible repeat (first | refine blk_drewN ?_ _ | refine blk_drew ?_ | refine blk_alloc ?_ _)); exact BK416.out⟩, ⟨by (with_reducible repeat (first | refine blk_drewN ?_ _ | refine blk_drew ?_ | refine blk_alloc ?_ _)); exact BK419.out⟩, ⟨by repeat (first | (with_reducible first | exact HB.out | apply below_alloc | apply pw_below_drewN | apply below_drew1 | refine below_set ?_ GE416.out | refine below_set ?_ GE419.out) | exact HB.out)⟩⟩
                        case rest =>
                          clear HC28
                          try clear c1
                          try clear q1
                          try clear c2
                          try clear p2
                          try clear c3
                          try clear c4
                          try clear p4
                          try clear q4
                          try clear hx4
                          try clear c6
                          try clear c6b0
                          try clear c6b1
                          try clear p6
                          try clear c11
                          try clear c11b0
                          try clear c12
                          try clear c12b0
                          try clear c13
                          try clear c13b0
                          try clear c14
                          try clear c14b0
                          try clear q15
                          try clear c16
                          try clear c18
                          try clear c22
                          try clear c24
                          try clear c25
                          try clear c28
                          try clear c29
                          try clear c30
                          try clear c32
                          try clear hcz10_0
                          try clear hcz10_1
                          try clear hcz10_2
                          try clear hcz10_3
                          try clear hcz10_4
                          try clear hcz10_5
                          try clear hcz10_6
                          try clear hcz10_7
                          try clear hcz10_8
                          try clear hcz19_0
                          try clear hcz19_1
                          try clear hcz19_2
                          try clear hcz23_0
                          try clear hcz23_1
                          try clear hcz23_2
                          try clear hcz26_0
                          try clear hcz26_1
                          try clear hcz26_2
                          try clear hcz27_0
                          try clear hcz27_1
                          try clear hcz27_2
                          try clear hcz27_3
                          try clear hcz27_4
                          try clear hcz27_5
                          try clear hcz27_6
                          try clear hcz27_7
                          try clear hcz27_8
                          try clear hcz31_0
                          try clear hcz31_1
                          try clear hcz31_2
                          try clear hcz32_0
                          try clear hcz32_1
                          try clear hcz32_2
                          try clear hcz32_3
                          try clear hcz32_4
                          try clear hcz32_5
                          try clear hcz32_6
                          try clear hcz32_7
                          try clear hcz32_8
                          try clear hfz10_0
                          try clear hfz10_1
                          try clear hfz10_2
                          try clear hfz10_3
                          try clear hfz10_4
                          try clear hfz10_5
                          try clear hfz10_6
                          try clear hfz10_7
                          try clear hfz10_8
                          try clear hfz19_0
                          try clear hfz19_1
                          try clear hfz19_2
                          try clear hfz23_0
                          try clear hfz23_1
                          try clear hfz23_2
                          try clear hfz26_0
                          try clear hfz26_1
                          try clear hfz26_2
                          try clear hfz27_0
                          try clear hfz27_1
                          try clear hfz27_2
                          try clear hfz27_3
                          try clear hfz27_4
                          try clear hfz27_5
                          try clear hfz27_6
                          try clear hfz27_7
                          try clear hfz27_8
                          try clear hfz31_0
                          try clear hfz31_1
                          try clear hfz31_2
                          try clear hfz32_0
                          try clear hfz32_1
                          try clear hfz32_2
                          try clear hfz32_3
                          try clear hfz32_4
                          try clear hfz32_5
                          try clear hfz32_6
                          try clear hfz32_7
                          try clear hfz32_8
                          try clear hx417_0
                          try clear hx418_0
                          try clear hx418_1
                          try clear hx418_2
                          try clear p2
                          try clear p4
                          try clear p417
                          try clear p418
                          try clear p6
                          try clear q1
                          try clear q15
                          try clear q4
                          try clear q417
                          try clear q418
                          obtain ⟨kq, x9_27, rfl, HA, HJ27, BK416, BK419, HB⟩ := hcut
                          cases kq with
                          | zero => exact absurd HA.out (by simp [tithebarnlaw18_SumsBounds.j2])
                          | succ kj27 =>
                            have H := HA.out
                            clear HA
                            simp only [tithebarnlaw18_SumsBounds.j2] at H
                            replace H := Option.bind_eq_some_iff.mp H
                            obtain ⟨t420, A330, H⟩ := H
                            replace H : (if t420 = true then (some false) else ((tithebarnref02_Ahead_c.f t412 t413 t414 false ((rd_T23 (rd_L6 l0 x10_1) a1).f1) ((rd_T23 (rd_L6 l0 x10_1) a1).f2)).bind fun t421 => (if t421 = true then (some false) else (tithebarnlaw18_SumsBounds.l0 kj27 l0 a1 (wrap64 (x7_1 + 1)) x8_19 x9_27 (wrap64 (x10_1 + 1)) t406 t407 t408 t409 t410 t411 t412 t413 t414)))) = some r := H
                            have A33 := Aside0.mk A330
                            clear A330
                            by_cases c34 : t420 = true
                            · subst c34
                              have H1 : (some false) = some r := by rw [if_pos rfl] at H; exact H
                              clear H
                              have H := H1
                              clear H1
                              obtain rfl := Option.some.inj H
                              have hnb35 := NB419_416.out
                              have hnc35 := NB416_419.out
                              have hcz36_0 : wc.cell? ⟨gb419, 0, none⟩ = some (.bool false) := (blk_cell BK419.out 0).trans rfl
                              have hcz36_1 : wc.cell? ⟨gb419, 1, none⟩ = some (.int .i64 ((rd_T23 (rd_L6 l0 x10_1) a1).f1)) := (blk_cell BK419.out 1).trans rfl
                              have hcz36_2 : wc.cell? ⟨gb419, 2, none⟩ = some (.string ((rd_T23 (rd_L6 l0 x10_1) a1).f2)) := (blk_cell BK419.out 2).trans rfl
                              have hfz36_0 := blk_frozen BK419.out 0
                              have hfz36_1 := blk_frozen BK419.out 1
                              have hfz36_2 := blk_frozen BK419.out 2
                              have hcz37_0 : wc.cell? ⟨gb416, 0, none⟩ = some (.int .i64 t406) := (blk_cell BK416.out 0).trans rfl
                              have hcz37_1 : wc.cell? ⟨gb416, 1, none⟩ = some (.int .i64 t407) := (blk_cell BK416.out 1).trans rfl
                              have hcz37_2 : wc.cell? ⟨gb416, 2, none⟩ = some (.int .i64 t408) := (blk_cell BK416.out 2).trans rfl
                              have hcz37_3 : wc.cell? ⟨gb416, 3, none⟩ = some (.bool t409) := (blk_cell BK416.out 3).trans rfl
                              have hcz37_4 : wc.cell? ⟨gb416, 4, none⟩ = some (.int .i64 t410) := (blk_cell BK416.out 4).trans rfl
                              have hcz37_5 : wc.cell? ⟨gb416, 5, none⟩ = some (.string t411) := (blk_cell BK416.out 5).trans rfl
                              have hcz37_6 : wc.cell? ⟨gb416, 6, none⟩ = some (.bool t412) := (blk_cell BK416.out 6).trans rfl
                              have hcz37_7 : wc.cell? ⟨gb416, 7, none⟩ = some (.int .i64 t413) := (blk_cell BK416.out 7).trans rfl
                              have hcz37_8 : wc.cell? ⟨gb416, 8, none⟩ = some (.string t414) := (blk_cell BK416.out 8).trans rfl
                              have hfz37_0 := blk_frozen BK416.out 0
                              have hfz37_1 := blk_frozen BK416.out 1
                              have hfz37_2 := blk_frozen BK416.out 2
                              have hfz37_3 := blk_frozen BK416.out 3
                              have hfz37_4 := blk_frozen BK416.out 4
                              have hfz37_5 := blk_frozen BK416.out 5
                              have hfz37_6 := blk_frozen BK416.out 6
                              have hfz37_7 := blk_frozen BK416.out 7
                              have hfz37_8 := blk_frozen BK416.out 8
                              go_wp2_with (first | ((with_reducible refine gate_callee (f := 34) rfl ?_); refine goesL_ (some 59) rfl rfl Try.func34 (by kernel_rfl) rfl #[.agg #[.bool false, .int .i64 ((rd_T23 (rd_L6 l0 x10_1) a1).f1), .string ((rd_T23 (rd_L6 l0 x10_1) a1).f2)], .agg #[.bool t409, .int .i64 t410, .string t411]] rfl (by (try simp only [List.map_toArray, List.map_cons, List.map_nil]); first | done | rfl | (simp only [List.length_drop, List.length_take]; rfl)) ?_; (with_reducible refine (tithebarnref02_Ahead_c.calls false ((rd_T23 (rd_L6 l0 x10_1) a1).f1) ((rd_T23 (rd_L6 l0 x10_1) a1).f2) t409 t410 t411 true _ (by first | exact A33.out | (have z_ := A33.out; (try rw [← Nbq15.out] at z_); exact z_))).mono ?_); rintro e w38 ⟨rfl, hb⟩; refine ⟨_, rfl, ?_⟩; have n0_ := Aside0.mk (blk_below (g := gb416) (o := .cells #[.int .i64 t406, .int .i64 t407, .int .i64 t408, .bool t409, .int .i64 t410, .string t411, .bool t412, .int .i64 t413, .string t414] 52 (0, 0)) (by (with_reducible repeat (first | refine blk_drewN ?_ _ | refine blk_drew ?_ | refine blk_alloc ?_ _)); exact BK416.out) hb); have n1_ := Aside0.mk (blk_below (g := gb419) (o := .cells #[.bool false, .int .i64 ((rd_T23 (rd_L6 l0 x10_1) a1).f1), .string ((rd_T23 (rd_L6 l0 x10_1) a1).f2)] 23 (0, 0)) (by (with_reducible repeat (first | refine blk_drewN ?_ _ | refine blk_drew ?_ | refine blk_alloc ?_ _)); exact BK419.out) hb); have n2_ := Aside0.mk (below_step (by repeat (first | (with_reducible first | exact HB.out | apply below_alloc | apply pw_below_drewN | apply below_drew1 | refine below_set ?_ GE416.out | refine below_set ?_ GE419.out) | exact HB.out)) hb); clear BK416; clear BK419; clear HB; have BK416 := n0_; have BK419 := n1_; have HB := n2_; clear n0_ n1_ n2_; (try clear hb); (try clear hb2); (try clear hk); (try clear hi)))
                              go_ret
                              exact ⟨by first | rfl | (simp [errW_none, errW_some] <;> rfl) | (simp [*, errW_none, errW_some] <;> rfl), by repeat (first | (with_reducible first | exact HB.out | apply below_alloc | apply pw_below_drewN | apply below_drew1 | refine below_set ?_ GE416.out | refine below_set ?_ GE419.out) | exact HB.out)⟩
                            · replace c34 := Bool.eq_false_iff.mpr c34
                              subst c34
                              have H1 : ((tithebarnref02_Ahead_c.f t412 t413 t414 false ((rd_T23 (rd_L6 l0 x10_1) a1).f1) ((rd_T23 (rd_L6 l0 x10_1) a1).f2)).bind fun t421 => (if t421 = true then (some false) else (tithebarnlaw18_SumsBounds.l0 kj27 l0 a1 (wrap64 (x7_1 + 1)) x8_19 x9_27 (wrap64 (x10_1 + 1)) t406 t407 t408 t409 t410 t411 t412 t413 t414))) = some r := by rw [if_neg (show ¬ (false = true) by decide)] at H; exact H
                              clear H
                              have H := H1
                              clear H1
                              replace H := Option.bind_eq_some_iff.mp H
                              obtain ⟨t421, A390, H⟩ := H
                              replace H : (if t421 = true then (some false) else (tithebarnlaw18_SumsBounds.l0 kj27 l0 a1 (wrap64 (x7_1 + 1)) x8_19 x9_27 (wrap64 (x10_1 + 1)) t406 t407 t408 t409 t410 t411 t412 t413 t414)) = some r := H
                              have A39 := Aside0.mk A390
                              clear A390
                              by_cases c40 : t421 = true
                              · subst c40
                                have H1 : (some false) = some r := by rw [if_pos rfl] at H; exact H
                                clear H
                                have H := H1
                                clear H1
                                obtain rfl := Option.some.inj H
                                have hnb41 := NB419_416.out
                                have hnc41 := NB416_419.out
                                have hcz42_0 : wc.cell? ⟨gb419, 0, none⟩ = some (.bool false) := (blk_cell BK419.out 0).trans rfl
                                have hcz42_1 : wc.cell? ⟨gb419, 1, none⟩ = some (.int .i64 ((rd_T23 (rd_L6 l0 x10_1) a1).f1)) := (blk_cell BK419.out 1).trans rfl
                                have hcz42_2 : wc.cell? ⟨gb419, 2, none⟩ = some (.string ((rd_T23 (rd_L6 l0 x10_1) a1).f2)) := (blk_cell BK419.out 2).trans rfl
                                have hfz42_0 := blk_frozen BK419.out 0
                                have hfz42_1 := blk_frozen BK419.out 1
                                have hfz42_2 := blk_frozen BK419.out 2
                                have hcz43_0 : wc.cell? ⟨gb416, 0, none⟩ = some (.int .i64 t406) := (blk_cell BK416.out 0).trans rfl
                                have hcz43_1 : wc.cell? ⟨gb416, 1, none⟩ = some (.int .i64 t407) := (blk_cell BK416.out 1).trans rfl
                                have hcz43_2 : wc.cell? ⟨gb416, 2, none⟩ = some (.int .i64 t408) := (blk_cell BK416.out 2).trans rfl
                                have hcz43_3 : wc.cell? ⟨gb416, 3, none⟩ = some (.bool t409) := (blk_cell BK416.out 3).trans rfl
                                have hcz43_4 : wc.cell? ⟨gb416, 4, none⟩ = some (.int .i64 t410) := (blk_cell BK416.out 4).trans rfl
                                have hcz43_5 : wc.cell? ⟨gb416, 5, none⟩ = some (.string t411) := (blk_cell BK416.out 5).trans rfl
                                have hcz43_6 : wc.cell? ⟨gb416, 6, none⟩ = some (.bool t412) := (blk_cell BK416.out 6).trans rfl
                                have hcz43_7 : wc.cell? ⟨gb416, 7, none⟩ = some (.int .i64 t413) := (blk_cell BK416.out 7).trans rfl
                                have hcz43_8 : wc.cell? ⟨gb416, 8, none⟩ = some (.string t414) := (blk_cell BK416.out 8).trans rfl
                                have hfz43_0 := blk_frozen BK416.out 0
                                have hfz43_1 := blk_frozen BK416.out 1
                                have hfz43_2 := blk_frozen BK416.out 2
                                have hfz43_3 := blk_frozen BK416.out 3
                                have hfz43_4 := blk_frozen BK416.out 4
                                have hfz43_5 := blk_frozen BK416.out 5
                                have hfz43_6 := blk_frozen BK416.out 6
                                have hfz43_7 := blk_frozen BK416.out 7
                                have hfz43_8 := blk_frozen BK416.out 8
                                go_wp2_with (first | ((with_reducible refine gate_callee (f := 34) rfl ?_); refine goesL_ (some 59) rfl rfl Try.func34 (by kernel_rfl) rfl #[.agg #[.bool false, .int .i64 ((rd_T23 (rd_L6 l0 x10_1) a1).f1), .string ((rd_T23 (rd_L6 l0 x10_1) a1).f2)], .agg #[.bool t409, .int .i64 t410, .string t411]] rfl (by (try simp only [List.map_toArray, List.map_cons, List.map_nil]); first | done | rfl | (simp only [List.length_drop, List.length_take]; rfl)) ?_; (with_reducible refine (tithebarnref02_Ahead_c.calls false ((rd_T23 (rd_L6 l0 x10_1) a1).f1) ((rd_T23 (rd_L6 l0 x10_1) a1).f2) t409 t410 t411 false _ (by first | exact A33.out | (have z_ := A33.out; (try rw [← Nbq15.out] at z_); exact z_))).mono ?_); rintro e w44 ⟨rfl, hb⟩; refine ⟨_, rfl, ?_⟩; have n0_ := Aside0.mk (blk_below (g := gb416) (o := .cells #[.int .i64 t406, .int .i64 t407, .int .i64 t408, .bool t409, .int .i64 t410, .string t411, .bool t412, .int .i64 t413, .string t414] 52 (0, 0)) (by (with_reducible repeat (first | refine blk_drewN ?_ _ | refine blk_drew ?_ | refine blk_alloc ?_ _)); exact BK416.out) hb); have n1_ := Aside0.mk (blk_below (g := gb419) (o := .cells #[.bool false, .int .i64 ((rd_T23 (rd_L6 l0 x10_1) a1).f1), .string ((rd_T23 (rd_L6 l0 x10_1) a1).f2)] 23 (0, 0)) (by (with_reducible repeat (first | refine blk_drewN ?_ _ | refine blk_drew ?_ | refine blk_alloc ?_ _)); exact BK419.out) hb); have n2_ := Aside0.mk (below_step (by repeat (first | (with_reducible first | exact HB.out | apply below_alloc | apply pw_below_drewN | apply below_drew1 | refine below_set ?_ GE416.out | refine below_set ?_ GE419.out) | exact HB.out)) hb); clear BK416; clear BK419; clear HB; have BK416 := n0_; have BK419 := n1_; have HB := n2_; clear n0_ n1_ n2_; (try clear hb); (try clear hb2); (try clear hk); (try clear hi); have hcz45_0 : w44.cell? ⟨gb416, 0, none⟩ = some (.int .i64 t406) := (blk_cell BK416.out 0).trans rfl; have hcz45_1 : w44.cell? ⟨gb416, 1, none⟩ = some (.int .i64 t407) := (blk_cell BK416.out 1).trans rfl; have hcz45_2 : w44.cell? ⟨gb416, 2, none⟩ = some (.int .i64 t408) := (blk_cell BK416.out 2).trans rfl; have hcz45_3 : w44.cell? ⟨gb416, 3, none⟩ = some (.bool t409) := (blk_cell BK416.out 3).trans rfl; have hcz45_4 : w44.cell? ⟨gb416, 4, none⟩ = some (.int .i64 t410) := (blk_cell BK416.out 4).trans rfl; have hcz45_5 : w44.cell? ⟨gb416, 5, none⟩ = some (.string t411) := (blk_cell BK416.out 5).trans rfl; have hcz45_6 : w44.cell? ⟨gb416, 6, none⟩ = some (.bool t412) := (blk_cell BK416.out 6).trans rfl; have hcz45_7 : w44.cell? ⟨gb416, 7, none⟩ = some (.int .i64 t413) := (blk_cell BK416.out 7).trans rfl; have hcz45_8 : w44.cell? ⟨gb416, 8, none⟩ = some (.string t414) := (blk_cell BK416.out 8).trans rfl; have hfz45_0 := blk_frozen BK416.out 0; have hfz45_1 := blk_frozen BK416.out 1; have hfz45_2 := blk_frozen BK416.out 2; have hfz45_3 := blk_frozen BK416.out 3; have hfz45_4 := blk_frozen BK416.out 4; have hfz45_5 := blk_frozen BK416.out 5; have hfz45_6 := blk_frozen BK416.out 6; have hfz45_7 := blk_frozen BK416.out 7; have hfz45_8 := blk_frozen BK416.out 8; have hcz46_0 : w44.cell? ⟨gb419, 0, none⟩ = some (.bool false) := (blk_cell BK419.out 0).trans rfl; have hcz46_1 : w44.cell? ⟨gb419, 1, none⟩ = some (.int .i64 ((rd_T23 (rd_L6 l0 x10_1) a1).f1)) := (blk_cell BK419.out 1).trans rfl; have hcz46_2 : w44.cell? ⟨gb419, 2, none⟩ = some (.string ((rd_T23 (rd_L6 l0 x10_1) a1).f2)) := (blk_cell BK419.out 2).trans rfl; have hfz46_0 := blk_frozen BK419.out 0; have hfz46_1 := blk_frozen BK419.out 1; have hfz46_2 := blk_frozen BK419.out 2) | (go_at_call 34; (with_reducible refine (tithebarnref02_Ahead_c.calls t412 t413 t414 false ((rd_T23 (rd_L6 l0 x10_1) a1).f1) ((rd_T23 (rd_L6 l0 x10_1) a1).f2) true _ (by first | exact A39.out | (have z_ := A39.out; (try rw [← Nbq15.out] at z_); exact z_))).mono ?_); rintro e w47 ⟨rfl, hb⟩; have n0_ := Aside0.mk (blk_below (g := gb416) (o := .cells #[.int .i64 t406, .int .i64 t407, .int .i64 t408, .bool t409, .int .i64 t410, .string t411, .bool t412, .int .i64 t413, .string t414] 52 (0, 0)) (by (with_reducible repeat (first | refine blk_drewN ?_ _ | refine blk_drew ?_ | refine blk_alloc ?_ _)); exact BK416.out) hb); have n1_ := Aside0.mk (blk_below (g := gb419) (o := .cells #[.bool false, .int .i64 ((rd_T23 (rd_L6 l0 x10_1) a1).f1), .string ((rd_T23 (rd_L6 l0 x10_1) a1).f2)] 23 (0, 0)) (by (with_reducible repeat (first | refine blk_drewN ?_ _ | refine blk_drew ?_ | refine blk_alloc ?_ _)); exact BK419.out) hb); have n2_ := Aside0.mk (below_step (by repeat (first | (with_reducible first | exact HB.out | apply below_alloc | apply pw_below_drewN | apply below_drew1 | refine below_set ?_ GE416.out | refine below_set ?_ GE419.out) | exact HB.out)) hb); clear BK416; clear BK419; clear HB; have BK416 := n0_; have BK419 := n1_; have HB := n2_; clear n0_ n1_ n2_; (try clear hb); (try clear hb2); (try clear hk); (try clear hi)))
                                go_ret
                                exact ⟨by first | rfl | (simp [errW_none, errW_some] <;> rfl) | (simp [*, errW_none, errW_some] <;> rfl), by repeat (first | (with_reducible first | exact HB.out | apply below_alloc | apply pw_below_drewN | apply below_drew1 | refine below_set ?_ GE416.out | refine below_set ?_ GE419.out) | exact HB.out)⟩
                              · replace c40 := Bool.eq_false_iff.mpr c40
                                subst c40
                                have H1 : (tithebarnlaw18_SumsBounds.l0 kj27 l0 a1 (wrap64 (x7_1 + 1)) x8_19 x9_27 (wrap64 (x10_1 + 1)) t406 t407 t408 t409 t410 t411 t412 t413 t414) = some r := by rw [if_neg (show ¬ (false = true) by decide)] at H; exact H
                                clear H
                                have H := H1
                                clear H1
                                have H' := Aside0.mk H
                                clear H
                                have hnb48 := NB419_416.out
                                have hnc48 := NB416_419.out
                                have hcz49_0 : wc.cell? ⟨gb419, 0, none⟩ = some (.bool false) := (blk_cell BK419.out 0).trans rfl
                                have hcz49_1 : wc.cell? ⟨gb419, 1, none⟩ = some (.int .i64 ((rd_T23 (rd_L6 l0 x10_1) a1).f1)) := (blk_cell BK419.out 1).trans rfl
                                have hcz49_2 : wc.cell? ⟨gb419, 2, none⟩ = some (.string ((rd_T23 (rd_L6 l0 x10_1) a1).f2)) := (blk_cell BK419.out 2).trans rfl
                                have hfz49_0 := blk_frozen BK419.out 0
                                have hfz49_1 := blk_frozen BK419.out 1
                                have hfz49_2 := blk_frozen BK419.out 2
                                have hcz50_0 : wc.cell? ⟨gb416, 0, none⟩ = some (.int .i64 t406) := (blk_cell BK416.out 0).trans rfl
                                have hcz50_1 : wc.cell? ⟨gb416, 1, none⟩ = some (.int .i64 t407) := (blk_cell BK416.out 1).trans rfl
                                have hcz50_2 : wc.cell? ⟨gb416, 2, none⟩ = some (.int .i64 t408) := (blk_cell BK416.out 2).trans rfl
                                have hcz50_3 : wc.cell? ⟨gb416, 3, none⟩ = some (.bool t409) := (blk_cell BK416.out 3).trans rfl
                                have hcz50_4 : wc.cell? ⟨gb416, 4, none⟩ = some (.int .i64 t410) := (blk_cell BK416.out 4).trans rfl
                                have hcz50_5 : wc.cell? ⟨gb416, 5, none⟩ = some (.string t411) := (blk_cell BK416.out 5).trans rfl
                                have hcz50_6 : wc.cell? ⟨gb416, 6, none⟩ = some (.bool t412) := (blk_cell BK416.out 6).trans rfl
                                have hcz50_7 : wc.cell? ⟨gb416, 7, none⟩ = some (.int .i64 t413) := (blk_cell BK416.out 7).trans rfl
                                have hcz50_8 : wc.cell? ⟨gb416, 8, none⟩ = some (.string t414) := (blk_cell BK416.out 8).trans rfl
                                have hfz50_0 := blk_frozen BK416.out 0
                                have hfz50_1 := blk_frozen BK416.out 1
                                have hfz50_2 := blk_frozen BK416.out 2
                                have hfz50_3 := blk_frozen BK416.out 3
                                have hfz50_4 := blk_frozen BK416.out 4
                                have hfz50_5 := blk_frozen BK416.out 5
                                have hfz50_6 := blk_frozen BK416.out 6
                                have hfz50_7 := blk_frozen BK416.out 7
                                have hfz50_8 := blk_frozen BK416.out 8
                                go_wp2_with (first | ((with_reducible refine gate_callee (f := 34) rfl ?_); refine goesL_ (some 59) rfl rfl Try.func34 (by kernel_rfl) rfl #[.agg #[.bool false, .int .i64 ((rd_T23 (rd_L6 l0 x10_1) a1).f1), .string ((rd_T23 (rd_L6 l0 x10_1) a1).f2)], .agg #[.bool t409, .int .i64 t410, .string t411]] rfl (by (try simp only [List.map_toArray, List.map_cons, List.map_nil]); first | done | rfl | (simp only [List.length_drop, List.length_take]; rfl)) ?_; (with_reducible refine (tithebarnref02_Ahead_c.calls false ((rd_T23 (rd_L6 l0 x10_1) a1).f1) ((rd_T23 (rd_L6 l0 x10_1) a1).f2) t409 t410 t411 false _ (by first | exact A33.out | (have z_ := A33.out; (try rw [← Nbq15.out] at z_); exact z_))).mono ?_); rintro e w51 ⟨rfl, hb⟩; refine ⟨_, rfl, ?_⟩; have n0_ := Aside0.mk (blk_below (g := gb416) (o := .cells #[.int .i64 t406, .int .i64 t407, .int .i64 t408, .bool t409, .int .i64 t410, .string t411, .bool t412, .int .i64 t413, .string t414] 52 (0, 0)) (by (with_reducible repeat (first | refine blk_drewN ?_ _ | refine blk_drew ?_ | refine blk_alloc ?_ _)); exact BK416.out) hb); have n1_ := Aside0.mk (blk_below (g := gb419) (o := .cells #[.bool false, .int .i64 ((rd_T23 (rd_L6 l0 x10_1) a1).f1), .string ((rd_T23 (rd_L6 l0 x10_1) a1).f2)] 23 (0, 0)) (by (with_reducible repeat (first | refine blk_drewN ?_ _ | refine blk_drew ?_ | refine blk_alloc ?_ _)); exact BK419.out) hb); have n2_ := Aside0.mk (below_step (by repeat (first | (with_reducible first | exact HB.out | apply below_alloc | apply pw_below_drewN | apply below_drew1 | refine below_set ?_ GE416.out | refine below_set ?_ GE419.out) | exact HB.out)) hb); clear BK416; clear BK419; clear HB; have BK416 := n0_; have BK419 := n1_; have HB := n2_; clear n0_ n1_ n2_; (try clear hb); (try clear hb2); (try clear hk); (try clear hi); have hcz52_0 : w51.cell? ⟨gb416, 0, none⟩ = some (.int .i64 t406) := (blk_cell BK416.out 0).trans rfl; have hcz52_1 : w51.cell? ⟨gb416, 1, none⟩ = some (.int .i64 t407) := (blk_cell BK416.out 1).trans rfl; have hcz52_2 : w51.cell? ⟨gb416, 2, none⟩ = some (.int .i64 t408) := (blk_cell BK416.out 2).trans rfl; have hcz52_3 : w51.cell? ⟨gb416, 3, none⟩ = some (.bool t409) := (blk_cell BK416.out 3).trans rfl; have hcz52_4 : w51.cell? ⟨gb416, 4, none⟩ = some (.int .i64 t410) := (blk_cell BK416.out 4).trans rfl; have hcz52_5 : w51.cell? ⟨gb416, 5, none⟩ = some (.string t411) := (blk_cell BK416.out 5).trans rfl; have hcz52_6 : w51.cell? ⟨gb416, 6, none⟩ = some (.bool t412) := (blk_cell BK416.out 6).trans rfl; have hcz52_7 : w51.cell? ⟨gb416, 7, none⟩ = some (.int .i64 t413) := (blk_cell BK416.out 7).trans rfl; have hcz52_8 : w51.cell? ⟨gb416, 8, none⟩ = some (.string t414) := (blk_cell BK416.out 8).trans rfl; have hfz52_0 := blk_frozen BK416.out 0; have hfz52_1 := blk_frozen BK416.out 1; have hfz52_2 := blk_frozen BK416.out 2; have hfz52_3 := blk_frozen BK416.out 3; have hfz52_4 := blk_frozen BK416.out 4; have hfz52_5 := blk_frozen BK416.out 5; have hfz52_6 := blk_frozen BK416.out 6; have hfz52_7 := blk_frozen BK416.out 7; have hfz52_8 := blk_frozen BK416.out 8; have hcz53_0 : w51.cell? ⟨gb419, 0, none⟩ = some (.bool false) := (blk_cell BK419.out 0).trans rfl; have hcz53_1 : w51.cell? ⟨gb419, 1, none⟩ = some (.int .i64 ((rd_T23 (rd_L6 l0 x10_1) a1).f1)) := (blk_cell BK419.out 1).trans rfl; have hcz53_2 : w51.cell? ⟨gb419, 2, none⟩ = some (.string ((rd_T23 (rd_L6 l0 x10_1) a1).f2)) := (blk_cell BK419.out 2).trans rfl; have hfz53_0 := blk_frozen BK419.out 0; have hfz53_1 := blk_frozen BK419.out 1; have hfz53_2 := blk_frozen BK419.out 2) | (go_at_call 34; (with_reducible refine (tithebarnref02_Ahead_c.calls t412 t413 t414 false ((rd_T23 (rd_L6 l0 x10_1) a1).f1) ((rd_T23 (rd_L6 l0 x10_1) a1).f2) false _ (by first | exact A39.out | (have z_ := A39.out; (try rw [← Nbq15.out] at z_); exact z_))).mono ?_); rintro e w54 ⟨rfl, hb⟩; have n0_ := Aside0.mk (blk_below (g := gb416) (o := .cells #[.int .i64 t406, .int .i64 t407, .int .i64 t408, .bool t409, .int .i64 t410, .string t411, .bool t412, .int .i64 t413, .string t414] 52 (0, 0)) (by (with_reducible repeat (first | refine blk_drewN ?_ _ | refine blk_drew ?_ | refine blk_alloc ?_ _)); exact BK416.out) hb); have n1_ := Aside0.mk (blk_below (g := gb419) (o := .cells #[.bool false, .int .i64 ((rd_T23 (rd_L6 l0 x10_1) a1).f1), .string ((rd_T23 (rd_L6 l0 x10_1) a1).f2)] 23 (0, 0)) (by (with_reducible repeat (first | refine blk_drewN ?_ _ | refine blk_drew ?_ | refine blk_alloc ?_ _)); exact BK419.out) hb); have n2_ := Aside0.mk (below_step (by repeat (first | (with_reducible first | exact HB.out | apply below_alloc | apply pw_below_drewN | apply below_drew1 | refine below_set ?_ GE416.out | refine below_set ?_ GE419.out) | exact HB.out)) hb); clear BK416; clear BK419; clear HB; have BK416 := n0_; have BK419 := n1_; have HB := n2_; clear n0_ n1_ n2_; (try clear hb); (try clear hb2); (try clear hk); (try clear hi)))
                                go_roundg kj27
                                case measure => have := HK1.out; have := HJ19.out; have := HJ27.out; omega
                                case rel => exact ⟨((wrap64 (x7_1 + 1))), (x8_19), (x9_27), (wrap64 (x10_1 + 1)), (by first | rfl | (simp; done) | (simp [*]; done)), (by first | rfl | (simp; done) | (simp [*]; done)), (by first | rfl | (simp; done) | (simp [*]; done)), (by first | rfl | (simp; done) | (simp [*]; done)), H', ⟨by have := HK1.out; have := HJ19.out; have := HJ27.out; omega⟩, ⟨by (with_reducible repeat (first | refine blk_drewN ?_ _ | refine blk_drew ?_ | refine blk_alloc ?_ _)); exact BK416.out⟩, ⟨by repeat (first | (with_reducible first | exact HB.out | apply below_alloc | apply pw_below_drewN | apply below_drew1 | refine below_set ?_ GE416.out | refine below_set ?_ GE419.out) | exact HB.out)⟩⟩
                · rw [if_neg c14] at H
                  exact absurd H (by simp)
              · rw [if_neg c13] at H
                exact absurd H (by simp)
            · rw [if_neg c12] at H
              exact absurd H (by simp)
          · rw [if_neg c11] at H
            have c11b0 : decide (x10_1 < (l0.length : Int)) = false := decide_eq_false c11
            clear c11
            by_cases c55 : t406 = (l0.length : Int)
            · rw [if_pos c55] at H
              have c55b0 : (t406 == (l0.length : Int)) = true := beq_iff_eq.mpr c55
              have c55b1 : (t406 != (l0.length : Int)) = false := bne_eq_false_iff_eq.mpr c55
              clear c55
              by_cases c56 : t408 = x7_1
              · rw [if_pos c56] at H
                have c56b0 : (t408 == x7_1) = true := beq_iff_eq.mpr c56
                have c56b1 : (t408 != x7_1) = false := bne_eq_false_iff_eq.mpr c56
                clear c56
                by_cases c57 : x7_1 = 0
                · rw [if_pos c57] at H
                  have c57b0 : (x7_1 == 0) = true := beq_iff_eq.mpr c57
                  have c57b1 : (x7_1 != 0) = false := bne_eq_false_iff_eq.mpr c57
                  clear c57
                  by_cases c58 : (!t409 && (t410 == 0 && (t411.toList == ([] : List UInt8)))) = true
                  · rw [if_pos c58] at H
                    have c58b0 : (!t409 && (t410 == 0 && (t411.toList == ([] : List UInt8)))) = true := c58
                    (try (have c58q : (!t409 && (t410 == 0 && (t411.toList == ([] : List UInt8)))) = true := (by simpa using c58); simp only [Bool.and_eq_true, Bool.not_eq_true', beq_iff_eq] at c58q))
                    clear c58
                    by_cases c59 : (!t412 && (t413 == 0 && (t414.toList == ([] : List UInt8)))) = true
                    · rw [if_pos c59] at H
                      have c59b0 : (!t412 && (t413 == 0 && (t414.toList == ([] : List UInt8)))) = true := c59
                      (try (have c59q : (!t412 && (t413 == 0 && (t414.toList == ([] : List UInt8)))) = true := (by simpa using c59); simp only [Bool.and_eq_true, Bool.not_eq_true', beq_iff_eq] at c59q))
                      clear c59
                      by_cases c60 : t407 = 0
                      · rw [if_pos c60] at H
                        have c60b0 : (t407 == 0) = true := beq_iff_eq.mpr c60
                        have c60b1 : (t407 != 0) = false := bne_eq_false_iff_eq.mpr c60
                        clear c60
                        obtain rfl := Option.some.inj H
                        have hcz61_0 : wr.cell? ⟨gb416, 0, none⟩ = some (.int .i64 t406) := (blk_cell BK416.out 0).trans rfl
                        have hcz61_1 : wr.cell? ⟨gb416, 1, none⟩ = some (.int .i64 t407) := (blk_cell BK416.out 1).trans rfl
                        have hcz61_2 : wr.cell? ⟨gb416, 2, none⟩ = some (.int .i64 t408) := (blk_cell BK416.out 2).trans rfl
                        have hcz61_3 : wr.cell? ⟨gb416, 3, none⟩ = some (.bool t409) := (blk_cell BK416.out 3).trans rfl
                        have hcz61_4 : wr.cell? ⟨gb416, 4, none⟩ = some (.int .i64 t410) := (blk_cell BK416.out 4).trans rfl
                        have hcz61_5 : wr.cell? ⟨gb416, 5, none⟩ = some (.string t411) := (blk_cell BK416.out 5).trans rfl
                        have hcz61_6 : wr.cell? ⟨gb416, 6, none⟩ = some (.bool t412) := (blk_cell BK416.out 6).trans rfl
                        have hcz61_7 : wr.cell? ⟨gb416, 7, none⟩ = some (.int .i64 t413) := (blk_cell BK416.out 7).trans rfl
                        have hcz61_8 : wr.cell? ⟨gb416, 8, none⟩ = some (.string t414) := (blk_cell BK416.out 8).trans rfl
                        have hfz61_0 := blk_frozen BK416.out 0
                        have hfz61_1 := blk_frozen BK416.out 1
                        have hfz61_2 := blk_frozen BK416.out 2
                        have hfz61_3 := blk_frozen BK416.out 3
                        have hfz61_4 := blk_frozen BK416.out 4
                        have hfz61_5 := blk_frozen BK416.out 5
                        have hfz61_6 := blk_frozen BK416.out 6
                        have hfz61_7 := blk_frozen BK416.out 7
                        have hfz61_8 := blk_frozen BK416.out 8
                        go_wp2
                        go_ret
                        exact ⟨by first | rfl | (simp [errW_none, errW_some] <;> rfl) | (simp [*, errW_none, errW_some] <;> rfl), by repeat (first | (with_reducible first | exact HB.out | apply below_alloc | apply pw_below_drewN | apply below_drew1 | refine below_set ?_ GE416.out) | exact HB.out)⟩
                      · rw [if_neg c60] at H
                        have c60b0 : (t407 == 0) = false := beq_eq_false_iff_ne.mpr c60
                        have c60b1 : (t407 != 0) = true := bne_iff_ne.mpr c60
                        by_cases c62 : x7_1 > 0
                        · rw [if_pos c62] at H
                          have c62b0 : decide (0 < x7_1) = true := decide_eq_true c62
                          clear c62
                          by_cases c63 : x8_1 = true
                          · subst c63
                            have H1 : (some x9_1) = some r := by rw [if_pos rfl] at H; exact H
                            clear H
                            have H := H1
                            clear H1
                            obtain rfl := Option.some.inj H
                            have hcz64_0 : wr.cell? ⟨gb416, 0, none⟩ = some (.int .i64 t406) := (blk_cell BK416.out 0).trans rfl
                            have hcz64_1 : wr.cell? ⟨gb416, 1, none⟩ = some (.int .i64 t407) := (blk_cell BK416.out 1).trans rfl
                            have hcz64_2 : wr.cell? ⟨gb416, 2, none⟩ = some (.int .i64 t408) := (blk_cell BK416.out 2).trans rfl
                            have hcz64_3 : wr.cell? ⟨gb416, 3, none⟩ = some (.bool t409) := (blk_cell BK416.out 3).trans rfl
                            have hcz64_4 : wr.cell? ⟨gb416, 4, none⟩ = some (.int .i64 t410) := (blk_cell BK416.out 4).trans rfl
                            have hcz64_5 : wr.cell? ⟨gb416, 5, none⟩ = some (.string t411) := (blk_cell BK416.out 5).trans rfl
                            have hcz64_6 : wr.cell? ⟨gb416, 6, none⟩ = some (.bool t412) := (blk_cell BK416.out 6).trans rfl
                            have hcz64_7 : wr.cell? ⟨gb416, 7, none⟩ = some (.int .i64 t413) := (blk_cell BK416.out 7).trans rfl
                            have hcz64_8 : wr.cell? ⟨gb416, 8, none⟩ = some (.string t414) := (blk_cell BK416.out 8).trans rfl
                            have hfz64_0 := blk_frozen BK416.out 0
                            have hfz64_1 := blk_frozen BK416.out 1
                            have hfz64_2 := blk_frozen BK416.out 2
                            have hfz64_3 := blk_frozen BK416.out 3
                            have hfz64_4 := blk_frozen BK416.out 4
                            have hfz64_5 := blk_frozen BK416.out 5
                            have hfz64_6 := blk_frozen BK416.out 6
                            have hfz64_7 := blk_frozen BK416.out 7
                            have hfz64_8 := blk_frozen BK416.out 8
                            go_wp2
                            go_ret
                            exact ⟨by first | rfl | (simp [errW_none, errW_some] <;> rfl) | (simp [*, errW_none, errW_some] <;> rfl), by repeat (first | (with_reducible first | exact HB.out | apply below_alloc | apply pw_below_drewN | apply below_drew1 | refine below_set ?_ GE416.out) | exact HB.out)⟩
                          · replace c63 := Bool.eq_false_iff.mpr c63
                            subst c63
                            have H1 : (some false) = some r := by rw [if_neg (show ¬ (false = true) by decide)] at H; exact H
                            clear H
                            have H := H1
                            clear H1
                            obtain rfl := Option.some.inj H
                            have hcz65_0 : wr.cell? ⟨gb416, 0, none⟩ = some (.int .i64 t406) := (blk_cell BK416.out 0).trans rfl
                            have hcz65_1 : wr.cell? ⟨gb416, 1, none⟩ = some (.int .i64 t407) := (blk_cell BK416.out 1).trans rfl
                            have hcz65_2 : wr.cell? ⟨gb416, 2, none⟩ = some (.int .i64 t408) := (blk_cell BK416.out 2).trans rfl
                            have hcz65_3 : wr.cell? ⟨gb416, 3, none⟩ = some (.bool t409) := (blk_cell BK416.out 3).trans rfl
                            have hcz65_4 : wr.cell? ⟨gb416, 4, none⟩ = some (.int .i64 t410) := (blk_cell BK416.out 4).trans rfl
                            have hcz65_5 : wr.cell? ⟨gb416, 5, none⟩ = some (.string t411) := (blk_cell BK416.out 5).trans rfl
                            have hcz65_6 : wr.cell? ⟨gb416, 6, none⟩ = some (.bool t412) := (blk_cell BK416.out 6).trans rfl
                            have hcz65_7 : wr.cell? ⟨gb416, 7, none⟩ = some (.int .i64 t413) := (blk_cell BK416.out 7).trans rfl
                            have hcz65_8 : wr.cell? ⟨gb416, 8, none⟩ = some (.string t414) := (blk_cell BK416.out 8).trans rfl
                            have hfz65_0 := blk_frozen BK416.out 0
                            have hfz65_1 := blk_frozen BK416.out 1
                            have hfz65_2 := blk_frozen BK416.out 2
                            have hfz65_3 := blk_frozen BK416.out 3
                            have hfz65_4 := blk_frozen BK416.out 4
                            have hfz65_5 := blk_frozen BK416.out 5
                            have hfz65_6 := blk_frozen BK416.out 6
                            have hfz65_7 := blk_frozen BK416.out 7
                            have hfz65_8 := blk_frozen BK416.out 8
                            go_wp2
                            go_ret
                            exact ⟨by first | rfl | (simp [errW_none, errW_some] <;> rfl) | (simp [*, errW_none, errW_some] <;> rfl), by repeat (first | (with_reducible first | exact HB.out | apply below_alloc | apply pw_below_drewN | apply below_drew1 | refine below_set ?_ GE416.out) | exact HB.out)⟩
                        · rw [if_neg c62] at H
                          have c62b0 : decide (0 < x7_1) = false := decide_eq_false c62
                          clear c62
                          obtain rfl := Option.some.inj H
                          have hcz66_0 : wr.cell? ⟨gb416, 0, none⟩ = some (.int .i64 t406) := (blk_cell BK416.out 0).trans rfl
                          have hcz66_1 : wr.cell? ⟨gb416, 1, none⟩ = some (.int .i64 t407) := (blk_cell BK416.out 1).trans rfl
                          have hcz66_2 : wr.cell? ⟨gb416, 2, none⟩ = some (.int .i64 t408) := (blk_cell BK416.out 2).trans rfl
                          have hcz66_3 : wr.cell? ⟨gb416, 3, none⟩ = some (.bool t409) := (blk_cell BK416.out 3).trans rfl
                          have hcz66_4 : wr.cell? ⟨gb416, 4, none⟩ = some (.int .i64 t410) := (blk_cell BK416.out 4).trans rfl
                          have hcz66_5 : wr.cell? ⟨gb416, 5, none⟩ = some (.string t411) := (blk_cell BK416.out 5).trans rfl
                          have hcz66_6 : wr.cell? ⟨gb416, 6, none⟩ = some (.bool t412) := (blk_cell BK416.out 6).trans rfl
                          have hcz66_7 : wr.cell? ⟨gb416, 7, none⟩ = some (.int .i64 t413) := (blk_cell BK416.out 7).trans rfl
                          have hcz66_8 : wr.cell? ⟨gb416, 8, none⟩ = some (.string t414) := (blk_cell BK416.out 8).trans rfl
                          have hfz66_0 := blk_frozen BK416.out 0
                          have hfz66_1 := blk_frozen BK416.out 1
                          have hfz66_2 := blk_frozen BK416.out 2
                          have hfz66_3 := blk_frozen BK416.out 3
                          have hfz66_4 := blk_frozen BK416.out 4
                          have hfz66_5 := blk_frozen BK416.out 5
                          have hfz66_6 := blk_frozen BK416.out 6
                          have hfz66_7 := blk_frozen BK416.out 7
                          have hfz66_8 := blk_frozen BK416.out 8
                          go_wp2
                          go_ret
                          exact ⟨by first | rfl | (simp [errW_none, errW_some] <;> rfl) | (simp [*, errW_none, errW_some] <;> rfl), by repeat (first | (with_reducible first | exact HB.out | apply below_alloc | apply pw_below_drewN | apply below_drew1 | refine below_set ?_ GE416.out) | exact HB.out)⟩
                    · rw [if_neg c59] at H
                      have c59b0 : (!t412 && (t413 == 0 && (t414.toList == ([] : List UInt8)))) = false := by simpa using c59
                      (try (have c59q : ¬ (!t412 && (t413 == 0 && (t414.toList == ([] : List UInt8)))) = true := (by simp only [c59b0]; exact Bool.false_ne_true); simp only [Bool.and_eq_true, Bool.not_eq_true', beq_iff_eq] at c59q))
                      clear c59
                      by_cases c67 : x7_1 > 0
                      · rw [if_pos c67] at H
                        have c67b0 : decide (0 < x7_1) = true := decide_eq_true c67
                        clear c67
                        by_cases c68 : x8_1 = true
                        · subst c68
                          have H1 : (some x9_1) = some r := by rw [if_pos rfl] at H; exact H
                          clear H
                          have H := H1
                          clear H1
                          obtain rfl := Option.some.inj H
                          have hcz69_0 : wr.cell? ⟨gb416, 0, none⟩ = some (.int .i64 t406) := (blk_cell BK416.out 0).trans rfl
                          have hcz69_1 : wr.cell? ⟨gb416, 1, none⟩ = some (.int .i64 t407) := (blk_cell BK416.out 1).trans rfl
                          have hcz69_2 : wr.cell? ⟨gb416, 2, none⟩ = some (.int .i64 t408) := (blk_cell BK416.out 2).trans rfl
                          have hcz69_3 : wr.cell? ⟨gb416, 3, none⟩ = some (.bool t409) := (blk_cell BK416.out 3).trans rfl
                          have hcz69_4 : wr.cell? ⟨gb416, 4, none⟩ = some (.int .i64 t410) := (blk_cell BK416.out 4).trans rfl
                          have hcz69_5 : wr.cell? ⟨gb416, 5, none⟩ = some (.string t411) := (blk_cell BK416.out 5).trans rfl
                          have hcz69_6 : wr.cell? ⟨gb416, 6, none⟩ = some (.bool t412) := (blk_cell BK416.out 6).trans rfl
                          have hcz69_7 : wr.cell? ⟨gb416, 7, none⟩ = some (.int .i64 t413) := (blk_cell BK416.out 7).trans rfl
                          have hcz69_8 : wr.cell? ⟨gb416, 8, none⟩ = some (.string t414) := (blk_cell BK416.out 8).trans rfl
                          have hfz69_0 := blk_frozen BK416.out 0
                          have hfz69_1 := blk_frozen BK416.out 1
                          have hfz69_2 := blk_frozen BK416.out 2
                          have hfz69_3 := blk_frozen BK416.out 3
                          have hfz69_4 := blk_frozen BK416.out 4
                          have hfz69_5 := blk_frozen BK416.out 5
                          have hfz69_6 := blk_frozen BK416.out 6
                          have hfz69_7 := blk_frozen BK416.out 7
                          have hfz69_8 := blk_frozen BK416.out 8
                          go_wp2
                          go_ret
                          exact ⟨by first | rfl | (simp [errW_none, errW_some] <;> rfl) | (simp [*, errW_none, errW_some] <;> rfl), by repeat (first | (with_reducible first | exact HB.out | apply below_alloc | apply pw_below_drewN | apply below_drew1 | refine below_set ?_ GE416.out) | exact HB.out)⟩
                        · replace c68 := Bool.eq_false_iff.mpr c68
                          subst c68
                          have H1 : (some false) = some r := by rw [if_neg (show ¬ (false = true) by decide)] at H; exact H
                          clear H
                          have H := H1
                          clear H1
                          obtain rfl := Option.some.inj H
                          have hcz70_0 : wr.cell? ⟨gb416, 0, none⟩ = some (.int .i64 t406) := (blk_cell BK416.out 0).trans rfl
                          have hcz70_1 : wr.cell? ⟨gb416, 1, none⟩ = some (.int .i64 t407) := (blk_cell BK416.out 1).trans rfl
                          have hcz70_2 : wr.cell? ⟨gb416, 2, none⟩ = some (.int .i64 t408) := (blk_cell BK416.out 2).trans rfl
                          have hcz70_3 : wr.cell? ⟨gb416, 3, none⟩ = some (.bool t409) := (blk_cell BK416.out 3).trans rfl
                          have hcz70_4 : wr.cell? ⟨gb416, 4, none⟩ = some (.int .i64 t410) := (blk_cell BK416.out 4).trans rfl
                          have hcz70_5 : wr.cell? ⟨gb416, 5, none⟩ = some (.string t411) := (blk_cell BK416.out 5).trans rfl
                          have hcz70_6 : wr.cell? ⟨gb416, 6, none⟩ = some (.bool t412) := (blk_cell BK416.out 6).trans rfl
                          have hcz70_7 : wr.cell? ⟨gb416, 7, none⟩ = some (.int .i64 t413) := (blk_cell BK416.out 7).trans rfl
                          have hcz70_8 : wr.cell? ⟨gb416, 8, none⟩ = some (.string t414) := (blk_cell BK416.out 8).trans rfl
                          have hfz70_0 := blk_frozen BK416.out 0
                          have hfz70_1 := blk_frozen BK416.out 1
                          have hfz70_2 := blk_frozen BK416.out 2
                          have hfz70_3 := blk_frozen BK416.out 3
                          have hfz70_4 := blk_frozen BK416.out 4
                          have hfz70_5 := blk_frozen BK416.out 5
                          have hfz70_6 := blk_frozen BK416.out 6
                          have hfz70_7 := blk_frozen BK416.out 7
                          have hfz70_8 := blk_frozen BK416.out 8
                          go_wp2
                          go_ret
                          exact ⟨by first | rfl | (simp [errW_none, errW_some] <;> rfl) | (simp [*, errW_none, errW_some] <;> rfl), by repeat (first | (with_reducible first | exact HB.out | apply below_alloc | apply pw_below_drewN | apply below_drew1 | refine below_set ?_ GE416.out) | exact HB.out)⟩
                      · rw [if_neg c67] at H
                        have c67b0 : decide (0 < x7_1) = false := decide_eq_false c67
                        clear c67
                        obtain rfl := Option.some.inj H
                        have hcz71_0 : wr.cell? ⟨gb416, 0, none⟩ = some (.int .i64 t406) := (blk_cell BK416.out 0).trans rfl
                        have hcz71_1 : wr.cell? ⟨gb416, 1, none⟩ = some (.int .i64 t407) := (blk_cell BK416.out 1).trans rfl
                        have hcz71_2 : wr.cell? ⟨gb416, 2, none⟩ = some (.int .i64 t408) := (blk_cell BK416.out 2).trans rfl
                        have hcz71_3 : wr.cell? ⟨gb416, 3, none⟩ = some (.bool t409) := (blk_cell BK416.out 3).trans rfl
                        have hcz71_4 : wr.cell? ⟨gb416, 4, none⟩ = some (.int .i64 t410) := (blk_cell BK416.out 4).trans rfl
                        have hcz71_5 : wr.cell? ⟨gb416, 5, none⟩ = some (.string t411) := (blk_cell BK416.out 5).trans rfl
                        have hcz71_6 : wr.cell? ⟨gb416, 6, none⟩ = some (.bool t412) := (blk_cell BK416.out 6).trans rfl
                        have hcz71_7 : wr.cell? ⟨gb416, 7, none⟩ = some (.int .i64 t413) := (blk_cell BK416.out 7).trans rfl
                        have hcz71_8 : wr.cell? ⟨gb416, 8, none⟩ = some (.string t414) := (blk_cell BK416.out 8).trans rfl
                        have hfz71_0 := blk_frozen BK416.out 0
                        have hfz71_1 := blk_frozen BK416.out 1
                        have hfz71_2 := blk_frozen BK416.out 2
                        have hfz71_3 := blk_frozen BK416.out 3
                        have hfz71_4 := blk_frozen BK416.out 4
                        have hfz71_5 := blk_frozen BK416.out 5
                        have hfz71_6 := blk_frozen BK416.out 6
                        have hfz71_7 := blk_frozen BK416.out 7
                        have hfz71_8 := blk_frozen BK416.out 8
                        go_wp2
                        go_ret
                        exact ⟨by first | rfl | (simp [errW_none, errW_some] <;> rfl) | (simp [*, errW_none, errW_some] <;> rfl), by repeat (first | (with_reducible first | exact HB.out | apply below_alloc | apply pw_below_drewN | apply below_drew1 | refine below_set ?_ GE416.out) | exact HB.out)⟩
                  · rw [if_neg c58] at H
                    have c58b0 : (!t409 && (t410 == 0 && (t411.toList == ([] : List UInt8)))) = false := by simpa using c58
                    (try (have c58q : ¬ (!t409 && (t410 == 0 && (t411.toList == ([] : List UInt8)))) = true := (by simp only [c58b0]; exact Bool.false_ne_true); simp only [Bool.and_eq_true, Bool.not_eq_true', beq_iff_eq] at c58q))
                    clear c58
                    by_cases c72 : x7_1 > 0
                    · rw [if_pos c72] at H
                      have c72b0 : decide (0 < x7_1) = true := decide_eq_true c72
                      clear c72
                      by_cases c73 : x8_1 = true
                      · subst c73
                        have H1 : (some x9_1) = some r := by rw [if_pos rfl] at H; exact H
                        clear H
                        have H := H1
                        clear H1
                        obtain rfl := Option.some.inj H
                        have hcz74_0 : wr.cell? ⟨gb416, 0, none⟩ = some (.int .i64 t406) := (blk_cell BK416.out 0).trans rfl
                        have hcz74_1 : wr.cell? ⟨gb416, 1, none⟩ = some (.int .i64 t407) := (blk_cell BK416.out 1).trans rfl
                        have hcz74_2 : wr.cell? ⟨gb416, 2, none⟩ = some (.int .i64 t408) := (blk_cell BK416.out 2).trans rfl
                        have hcz74_3 : wr.cell? ⟨gb416, 3, none⟩ = some (.bool t409) := (blk_cell BK416.out 3).trans rfl
                        have hcz74_4 : wr.cell? ⟨gb416, 4, none⟩ = some (.int .i64 t410) := (blk_cell BK416.out 4).trans rfl
                        have hcz74_5 : wr.cell? ⟨gb416, 5, none⟩ = some (.string t411) := (blk_cell BK416.out 5).trans rfl
                        have hcz74_6 : wr.cell? ⟨gb416, 6, none⟩ = some (.bool t412) := (blk_cell BK416.out 6).trans rfl
                        have hcz74_7 : wr.cell? ⟨gb416, 7, none⟩ = some (.int .i64 t413) := (blk_cell BK416.out 7).trans rfl
                        have hcz74_8 : wr.cell? ⟨gb416, 8, none⟩ = some (.string t414) := (blk_cell BK416.out 8).trans rfl
                        have hfz74_0 := blk_frozen BK416.out 0
                        have hfz74_1 := blk_frozen BK416.out 1
                        have hfz74_2 := blk_frozen BK416.out 2
                        have hfz74_3 := blk_frozen BK416.out 3
                        have hfz74_4 := blk_frozen BK416.out 4
                        have hfz74_5 := blk_frozen BK416.out 5
                        have hfz74_6 := blk_frozen BK416.out 6
                        have hfz74_7 := blk_frozen BK416.out 7
                        have hfz74_8 := blk_frozen BK416.out 8
                        go_wp2
                        go_ret
                        exact ⟨by first | rfl | (simp [errW_none, errW_some] <;> rfl) | (simp [*, errW_none, errW_some] <;> rfl), by repeat (first | (with_reducible first | exact HB.out | apply below_alloc | apply pw_below_drewN | apply below_drew1 | refine below_set ?_ GE416.out) | exact HB.out)⟩
                      · replace c73 := Bool.eq_false_iff.mpr c73
                        subst c73
                        have H1 : (some false) = some r := by rw [if_neg (show ¬ (false = true) by decide)] at H; exact H
                        clear H
                        have H := H1
                        clear H1
                        obtain rfl := Option.some.inj H
                        have hcz75_0 : wr.cell? ⟨gb416, 0, none⟩ = some (.int .i64 t406) := (blk_cell BK416.out 0).trans rfl
                        have hcz75_1 : wr.cell? ⟨gb416, 1, none⟩ = some (.int .i64 t407) := (blk_cell BK416.out 1).trans rfl
                        have hcz75_2 : wr.cell? ⟨gb416, 2, none⟩ = some (.int .i64 t408) := (blk_cell BK416.out 2).trans rfl
                        have hcz75_3 : wr.cell? ⟨gb416, 3, none⟩ = some (.bool t409) := (blk_cell BK416.out 3).trans rfl
                        have hcz75_4 : wr.cell? ⟨gb416, 4, none⟩ = some (.int .i64 t410) := (blk_cell BK416.out 4).trans rfl
                        have hcz75_5 : wr.cell? ⟨gb416, 5, none⟩ = some (.string t411) := (blk_cell BK416.out 5).trans rfl
                        have hcz75_6 : wr.cell? ⟨gb416, 6, none⟩ = some (.bool t412) := (blk_cell BK416.out 6).trans rfl
                        have hcz75_7 : wr.cell? ⟨gb416, 7, none⟩ = some (.int .i64 t413) := (blk_cell BK416.out 7).trans rfl
                        have hcz75_8 : wr.cell? ⟨gb416, 8, none⟩ = some (.string t414) := (blk_cell BK416.out 8).trans rfl
                        have hfz75_0 := blk_frozen BK416.out 0
                        have hfz75_1 := blk_frozen BK416.out 1
                        have hfz75_2 := blk_frozen BK416.out 2
                        have hfz75_3 := blk_frozen BK416.out 3
                        have hfz75_4 := blk_frozen BK416.out 4
                        have hfz75_5 := blk_frozen BK416.out 5
                        have hfz75_6 := blk_frozen BK416.out 6
                        have hfz75_7 := blk_frozen BK416.out 7
                        have hfz75_8 := blk_frozen BK416.out 8
                        go_wp2
                        go_ret
                        exact ⟨by first | rfl | (simp [errW_none, errW_some] <;> rfl) | (simp [*, errW_none, errW_some] <;> rfl), by repeat (first | (with_reducible first | exact HB.out | apply below_alloc | apply pw_below_drewN | apply below_drew1 | refine below_set ?_ GE416.out) | exact HB.out)⟩
                    · rw [if_neg c72] at H
                      have c72b0 : decide (0 < x7_1) = false := decide_eq_false c72
                      clear c72
                      obtain rfl := Option.some.inj H
                      have hcz76_0 : wr.cell? ⟨gb416, 0, none⟩ = some (.int .i64 t406) := (blk_cell BK416.out 0).trans rfl
                      have hcz76_1 : wr.cell? ⟨gb416, 1, none⟩ = some (.int .i64 t407) := (blk_cell BK416.out 1).trans rfl
                      have hcz76_2 : wr.cell? ⟨gb416, 2, none⟩ = some (.int .i64 t408) := (blk_cell BK416.out 2).trans rfl
                      have hcz76_3 : wr.cell? ⟨gb416, 3, none⟩ = some (.bool t409) := (blk_cell BK416.out 3).trans rfl
                      have hcz76_4 : wr.cell? ⟨gb416, 4, none⟩ = some (.int .i64 t410) := (blk_cell BK416.out 4).trans rfl
                      have hcz76_5 : wr.cell? ⟨gb416, 5, none⟩ = some (.string t411) := (blk_cell BK416.out 5).trans rfl
                      have hcz76_6 : wr.cell? ⟨gb416, 6, none⟩ = some (.bool t412) := (blk_cell BK416.out 6).trans rfl
                      have hcz76_7 : wr.cell? ⟨gb416, 7, none⟩ = some (.int .i64 t413) := (blk_cell BK416.out 7).trans rfl
                      have hcz76_8 : wr.cell? ⟨gb416, 8, none⟩ = some (.string t414) := (blk_cell BK416.out 8).trans rfl
                      have hfz76_0 := blk_frozen BK416.out 0
                      have hfz76_1 := blk_frozen BK416.out 1
                      have hfz76_2 := blk_frozen BK416.out 2
                      have hfz76_3 := blk_frozen BK416.out 3
                      have hfz76_4 := blk_frozen BK416.out 4
                      have hfz76_5 := blk_frozen BK416.out 5
                      have hfz76_6 := blk_frozen BK416.out 6
                      have hfz76_7 := blk_frozen BK416.out 7
                      have hfz76_8 := blk_frozen BK416.out 8
                      go_wp2
                      go_ret
                      exact ⟨by first | rfl | (simp [errW_none, errW_some] <;> rfl) | (simp [*, errW_none, errW_some] <;> rfl), by repeat (first | (with_reducible first | exact HB.out | apply below_alloc | apply pw_below_drewN | apply below_drew1 | refine below_set ?_ GE416.out) | exact HB.out)⟩
                · rw [if_neg c57] at H
                  have c57b0 : (x7_1 == 0) = false := beq_eq_false_iff_ne.mpr c57
                  have c57b1 : (x7_1 != 0) = true := bne_iff_ne.mpr c57
                  by_cases c77 : x7_1 > 0
                  · rw [if_pos c77] at H
                    have c77b0 : decide (0 < x7_1) = true := decide_eq_true c77
                    clear c77
                    by_cases c78 : x8_1 = true
                    · subst c78
                      have H1 : (some x9_1) = some r := by rw [if_pos rfl] at H; exact H
                      clear H
                      have H := H1
                      clear H1
                      obtain rfl := Option.some.inj H
                      have hcz79_0 : wr.cell? ⟨gb416, 0, none⟩ = some (.int .i64 t406) := (blk_cell BK416.out 0).trans rfl
                      have hcz79_1 : wr.cell? ⟨gb416, 1, none⟩ = some (.int .i64 t407) := (blk_cell BK416.out 1).trans rfl
                      have hcz79_2 : wr.cell? ⟨gb416, 2, none⟩ = some (.int .i64 t408) := (blk_cell BK416.out 2).trans rfl
                      have hcz79_3 : wr.cell? ⟨gb416, 3, none⟩ = some (.bool t409) := (blk_cell BK416.out 3).trans rfl
                      have hcz79_4 : wr.cell? ⟨gb416, 4, none⟩ = some (.int .i64 t410) := (blk_cell BK416.out 4).trans rfl
                      have hcz79_5 : wr.cell? ⟨gb416, 5, none⟩ = some (.string t411) := (blk_cell BK416.out 5).trans rfl
                      have hcz79_6 : wr.cell? ⟨gb416, 6, none⟩ = some (.bool t412) := (blk_cell BK416.out 6).trans rfl
                      have hcz79_7 : wr.cell? ⟨gb416, 7, none⟩ = some (.int .i64 t413) := (blk_cell BK416.out 7).trans rfl
                      have hcz79_8 : wr.cell? ⟨gb416, 8, none⟩ = some (.string t414) := (blk_cell BK416.out 8).trans rfl
                      have hfz79_0 := blk_frozen BK416.out 0
                      have hfz79_1 := blk_frozen BK416.out 1
                      have hfz79_2 := blk_frozen BK416.out 2
                      have hfz79_3 := blk_frozen BK416.out 3
                      have hfz79_4 := blk_frozen BK416.out 4
                      have hfz79_5 := blk_frozen BK416.out 5
                      have hfz79_6 := blk_frozen BK416.out 6
                      have hfz79_7 := blk_frozen BK416.out 7
                      have hfz79_8 := blk_frozen BK416.out 8
                      go_wp2
                      go_ret
                      exact ⟨by first | rfl | (simp [errW_none, errW_some] <;> rfl) | (simp [*, errW_none, errW_some] <;> rfl), by repeat (first | (with_reducible first | exact HB.out | apply below_alloc | apply pw_below_drewN | apply below_drew1 | refine below_set ?_ GE416.out) | exact HB.out)⟩
                    · replace c78 := Bool.eq_false_iff.mpr c78
                      subst c78
                      have H1 : (some false) = some r := by rw [if_neg (show ¬ (false = true) by decide)] at H; exact H
                      clear H
                      have H := H1
                      clear H1
                      obtain rfl := Option.some.inj H
                      have hcz80_0 : wr.cell? ⟨gb416, 0, none⟩ = some (.int .i64 t406) := (blk_cell BK416.out 0).trans rfl
                      have hcz80_1 : wr.cell? ⟨gb416, 1, none⟩ = some (.int .i64 t407) := (blk_cell BK416.out 1).trans rfl
                      have hcz80_2 : wr.cell? ⟨gb416, 2, none⟩ = some (.int .i64 t408) := (blk_cell BK416.out 2).trans rfl
                      have hcz80_3 : wr.cell? ⟨gb416, 3, none⟩ = some (.bool t409) := (blk_cell BK416.out 3).trans rfl
                      have hcz80_4 : wr.cell? ⟨gb416, 4, none⟩ = some (.int .i64 t410) := (blk_cell BK416.out 4).trans rfl
                      have hcz80_5 : wr.cell? ⟨gb416, 5, none⟩ = some (.string t411) := (blk_cell BK416.out 5).trans rfl
                      have hcz80_6 : wr.cell? ⟨gb416, 6, none⟩ = some (.bool t412) := (blk_cell BK416.out 6).trans rfl
                      have hcz80_7 : wr.cell? ⟨gb416, 7, none⟩ = some (.int .i64 t413) := (blk_cell BK416.out 7).trans rfl
                      have hcz80_8 : wr.cell? ⟨gb416, 8, none⟩ = some (.string t414) := (blk_cell BK416.out 8).trans rfl
                      have hfz80_0 := blk_frozen BK416.out 0
                      have hfz80_1 := blk_frozen BK416.out 1
                      have hfz80_2 := blk_frozen BK416.out 2
                      have hfz80_3 := blk_frozen BK416.out 3
                      have hfz80_4 := blk_frozen BK416.out 4
                      have hfz80_5 := blk_frozen BK416.out 5
                      have hfz80_6 := blk_frozen BK416.out 6
                      have hfz80_7 := blk_frozen BK416.out 7
                      have hfz80_8 := blk_frozen BK416.out 8
                      go_wp2
                      go_ret
                      exact ⟨by first | rfl | (simp [errW_none, errW_some] <;> rfl) | (simp [*, errW_none, errW_some] <;> rfl), by repeat (first | (with_reducible first | exact HB.out | apply below_alloc | apply pw_below_drewN | apply below_drew1 | refine below_set ?_ GE416.out) | exact HB.out)⟩
                  · rw [if_neg c77] at H
                    have c77b0 : decide (0 < x7_1) = false := decide_eq_false c77
                    clear c77
                    obtain rfl := Option.some.inj H
                    have hcz81_0 : wr.cell? ⟨gb416, 0, none⟩ = some (.int .i64 t406) := (blk_cell BK416.out 0).trans rfl
                    have hcz81_1 : wr.cell? ⟨gb416, 1, none⟩ = some (.int .i64 t407) := (blk_cell BK416.out 1).trans rfl
                    have hcz81_2 : wr.cell? ⟨gb416, 2, none⟩ = some (.int .i64 t408) := (blk_cell BK416.out 2).trans rfl
                    have hcz81_3 : wr.cell? ⟨gb416, 3, none⟩ = some (.bool t409) := (blk_cell BK416.out 3).trans rfl
                    have hcz81_4 : wr.cell? ⟨gb416, 4, none⟩ = some (.int .i64 t410) := (blk_cell BK416.out 4).trans rfl
                    have hcz81_5 : wr.cell? ⟨gb416, 5, none⟩ = some (.string t411) := (blk_cell BK416.out 5).trans rfl
                    have hcz81_6 : wr.cell? ⟨gb416, 6, none⟩ = some (.bool t412) := (blk_cell BK416.out 6).trans rfl
                    have hcz81_7 : wr.cell? ⟨gb416, 7, none⟩ = some (.int .i64 t413) := (blk_cell BK416.out 7).trans rfl
                    have hcz81_8 : wr.cell? ⟨gb416, 8, none⟩ = some (.string t414) := (blk_cell BK416.out 8).trans rfl
                    have hfz81_0 := blk_frozen BK416.out 0
                    have hfz81_1 := blk_frozen BK416.out 1
                    have hfz81_2 := blk_frozen BK416.out 2
                    have hfz81_3 := blk_frozen BK416.out 3
                    have hfz81_4 := blk_frozen BK416.out 4
                    have hfz81_5 := blk_frozen BK416.out 5
                    have hfz81_6 := blk_frozen BK416.out 6
                    have hfz81_7 := blk_frozen BK416.out 7
                    have hfz81_8 := blk_frozen BK416.out 8
                    go_wp2
                    go_ret
                    exact ⟨by first | rfl | (simp [errW_none, errW_some] <;> rfl) | (simp [*, errW_none, errW_some] <;> rfl), by repeat (first | (with_reducible first | exact HB.out | apply below_alloc | apply pw_below_drewN | apply below_drew1 | refine below_set ?_ GE416.out) | exact HB.out)⟩
              · rw [if_neg c56] at H
                have c56b0 : (t408 == x7_1) = false := beq_eq_false_iff_ne.mpr c56
                have c56b1 : (t408 != x7_1) = true := bne_iff_ne.mpr c56
                obtain rfl := Option.some.inj H
                have hcz82_0 : wr.cell? ⟨gb416, 0, none⟩ = some (.int .i64 t406) := (blk_cell BK416.out 0).trans rfl
                have hcz82_1 : wr.cell? ⟨gb416, 1, none⟩ = some (.int .i64 t407) := (blk_cell BK416.out 1).trans rfl
                have hcz82_2 : wr.cell? ⟨gb416, 2, none⟩ = some (.int .i64 t408) := (blk_cell BK416.out 2).trans rfl
                have hcz82_3 : wr.cell? ⟨gb416, 3, none⟩ = some (.bool t409) := (blk_cell BK416.out 3).trans rfl
                have hcz82_4 : wr.cell? ⟨gb416, 4, none⟩ = some (.int .i64 t410) := (blk_cell BK416.out 4).trans rfl
                have hcz82_5 : wr.cell? ⟨gb416, 5, none⟩ = some (.string t411) := (blk_cell BK416.out 5).trans rfl
                have hcz82_6 : wr.cell? ⟨gb416, 6, none⟩ = some (.bool t412) := (blk_cell BK416.out 6).trans rfl
                have hcz82_7 : wr.cell? ⟨gb416, 7, none⟩ = some (.int .i64 t413) := (blk_cell BK416.out 7).trans rfl
                have hcz82_8 : wr.cell? ⟨gb416, 8, none⟩ = some (.string t414) := (blk_cell BK416.out 8).trans rfl
                have hfz82_0 := blk_frozen BK416.out 0
                have hfz82_1 := blk_frozen BK416.out 1
                have hfz82_2 := blk_frozen BK416.out 2
                have hfz82_3 := blk_frozen BK416.out 3
                have hfz82_4 := blk_frozen BK416.out 4
                have hfz82_5 := blk_frozen BK416.out 5
                have hfz82_6 := blk_frozen BK416.out 6
                have hfz82_7 := blk_frozen BK416.out 7
                have hfz82_8 := blk_frozen BK416.out 8
                go_wp2
                go_ret
                exact ⟨by first | rfl | (simp [errW_none, errW_some] <;> rfl) | (simp [*, errW_none, errW_some] <;> rfl), by repeat (first | (with_reducible first | exact HB.out | apply below_alloc | apply pw_below_drewN | apply below_drew1 | refine below_set ?_ GE416.out) | exact HB.out)⟩
            · rw [if_neg c55] at H
              have c55b0 : (t406 == (l0.length : Int)) = false := beq_eq_false_iff_ne.mpr c55
              have c55b1 : (t406 != (l0.length : Int)) = true := bne_iff_ne.mpr c55
              obtain rfl := Option.some.inj H
              have hcz83_0 : wr.cell? ⟨gb416, 0, none⟩ = some (.int .i64 t406) := (blk_cell BK416.out 0).trans rfl
              have hcz83_1 : wr.cell? ⟨gb416, 1, none⟩ = some (.int .i64 t407) := (blk_cell BK416.out 1).trans rfl
              have hcz83_2 : wr.cell? ⟨gb416, 2, none⟩ = some (.int .i64 t408) := (blk_cell BK416.out 2).trans rfl
              have hcz83_3 : wr.cell? ⟨gb416, 3, none⟩ = some (.bool t409) := (blk_cell BK416.out 3).trans rfl
              have hcz83_4 : wr.cell? ⟨gb416, 4, none⟩ = some (.int .i64 t410) := (blk_cell BK416.out 4).trans rfl
              have hcz83_5 : wr.cell? ⟨gb416, 5, none⟩ = some (.string t411) := (blk_cell BK416.out 5).trans rfl
              have hcz83_6 : wr.cell? ⟨gb416, 6, none⟩ = some (.bool t412) := (blk_cell BK416.out 6).trans rfl
              have hcz83_7 : wr.cell? ⟨gb416, 7, none⟩ = some (.int .i64 t413) := (blk_cell BK416.out 7).trans rfl
              have hcz83_8 : wr.cell? ⟨gb416, 8, none⟩ = some (.string t414) := (blk_cell BK416.out 8).trans rfl
              have hfz83_0 := blk_frozen BK416.out 0
              have hfz83_1 := blk_frozen BK416.out 1
              have hfz83_2 := blk_frozen BK416.out 2
              have hfz83_3 := blk_frozen BK416.out 3
              have hfz83_4 := blk_frozen BK416.out 4
              have hfz83_5 := blk_frozen BK416.out 5
              have hfz83_6 := blk_frozen BK416.out 6
              have hfz83_7 := blk_frozen BK416.out 7
              have hfz83_8 := blk_frozen BK416.out 8
              go_wp2
              go_ret
              exact ⟨by first | rfl | (simp [errW_none, errW_some] <;> rfl) | (simp [*, errW_none, errW_some] <;> rfl), by repeat (first | (with_reducible first | exact HB.out | apply below_alloc | apply pw_below_drewN | apply below_drew1 | refine below_set ?_ GE416.out) | exact HB.out)⟩
    · rw [if_neg c6] at H
      have c6b0 : (t415 == 0) = false := beq_eq_false_iff_ne.mpr c6
      have c6b1 : (t415 != 0) = true := bne_iff_ne.mpr c6
      obtain rfl := Option.some.inj H
      go_enter Try.func13, Try.ntmps13
      go_wp2_with (first | ((with_reducible refine gate_callee (f := 28) rfl ?_); refine goesL_ (some 12) rfl rfl Try.func28 (by kernel_rfl) rfl #[] rfl (by (try simp only [List.map_toArray, List.map_cons, List.map_nil]); first | done | rfl | (simp only [List.length_drop, List.length_take]; rfl)) ?_; (with_reducible refine (tithebarnlaw18_lives_c.calls  true _ (by first | exact A3.out | (have z_ := A3.out; (try rw [← Nbq15.out] at z_); exact z_))).mono ?_); rintro e w84 ⟨rfl, hb⟩; refine ⟨_, rfl, ?_⟩; have n0_ := Aside0.mk (below_step (by repeat (first | (with_reducible first | exact HB.out | apply below_alloc | apply pw_below_drewN | apply below_drew1) | exact HB.out)) hb); clear HB; have HB := n0_; clear n0_; (try clear hb); (try clear hb2); (try clear hk); (try clear hi)) | ((with_reducible refine gate_callee (f := 32) rfl ?_); refine goesL_ (some 17) rfl rfl Try.func32 (by kernel_rfl) rfl #[.slice A0 l0.length c0, .int .i64 a1] rfl (by (try simp only [List.map_toArray, List.map_cons, List.map_nil]); first | done | rfl | (simp only [List.length_drop, List.length_take]; rfl)) ?_; (with_reducible refine (sums_Fold_c.calls _ _ l0 a1 t406 t407 t408 t409 t410 t411 t412 t413 t414 t415 _ ?side1 ?side2 (by first | exact A5.out | (have z_ := A5.out; (try rw [← Nbq15.out] at z_); exact z_))).mono ?_); (case side1 => repeat (first | exact (Kd.C_below HR0.out HB.out) | (with_reducible refine Kd.C_alloc ?_ _) | (with_reducible refine Kd.C_drewN ?_ _) | (with_reducible refine Kd.C_drew ?_))); (case side2 => exact HC0.out); rintro e w85 ⟨rfl, hb⟩; refine ⟨_, rfl, ?_⟩; have n0_ := Aside0.mk (below_step (by repeat (first | (with_reducible first | exact HB.out | apply below_alloc | apply pw_below_drewN | apply below_drew1) | exact HB.out)) hb); clear HB; have HB := n0_; clear n0_; (try clear hb); (try clear hb2); (try clear hk); (try clear hi)) | ((with_reducible refine gate_dst (N := 5) rfl ?_); refine box_event ?hg (N := 5) ?hd (cs := #[.int .i64 0, .int .i64 0, .int .i64 0, .bool false, .int .i64 0, .string (⟨#[]⟩ : ByteArray), .bool false, .int .i64 0, .string (⟨#[]⟩ : ByteArray)]) (t := 52) ?hr ?_; (case hd => rfl); (case hg => rfl); (case hr => first | (go_simp; done) | (go_simp; rfl)); intro gb416 hg w86 hbox hb; have n0_ := Aside0.mk (below_step (by repeat (first | (with_reducible first | exact HB.out | apply below_alloc | apply pw_below_drewN | apply below_drew1) | exact HB.out)) hb); have n1_ := Aside0.mk (hbox); have n2_ := Aside0.mk ((by rw [hg]; exact (below_size (by repeat (first | (with_reducible first | exact HB.out | apply below_alloc | apply pw_below_drewN | apply below_drew1) | exact HB.out))) : w.heap.size ≤ gb416)); have n3_ := Aside0.mk ((by rw [hg]; exact (below_size (by repeat (first | (with_reducible first | exact HB.out | apply below_alloc | apply pw_below_drewN | apply below_drew1) | exact HB.out))) : w.heap.size ≤ gb416)); clear HB; have HB := n0_; have BK416 := n1_; have GW416 := n2_; have GE416 := n3_; clear n0_ n1_ n2_ n3_; clear hb hbox hg; have hcz87_0 : w86.cell? ⟨gb416, 0, none⟩ = some (.int .i64 0) := (blk_cell BK416.out 0).trans rfl; have hcz87_1 : w86.cell? ⟨gb416, 1, none⟩ = some (.int .i64 0) := (blk_cell BK416.out 1).trans rfl; have hcz87_2 : w86.cell? ⟨gb416, 2, none⟩ = some (.int .i64 0) := (blk_cell BK416.out 2).trans rfl; have hcz87_3 : w86.cell? ⟨gb416, 3, none⟩ = some (.bool false) := (blk_cell BK416.out 3).trans rfl; have hcz87_4 : w86.cell? ⟨gb416, 4, none⟩ = some (.int .i64 0) := (blk_cell BK416.out 4).trans rfl; have hcz87_5 : w86.cell? ⟨gb416, 5, none⟩ = some (.string (⟨#[]⟩ : ByteArray)) := (blk_cell BK416.out 5).trans rfl; have hcz87_6 : w86.cell? ⟨gb416, 6, none⟩ = some (.bool false) := (blk_cell BK416.out 6).trans rfl; have hcz87_7 : w86.cell? ⟨gb416, 7, none⟩ = some (.int .i64 0) := (blk_cell BK416.out 7).trans rfl; have hcz87_8 : w86.cell? ⟨gb416, 8, none⟩ = some (.string (⟨#[]⟩ : ByteArray)) := (blk_cell BK416.out 8).trans rfl; have hfz87_0 := blk_frozen BK416.out 0; have hfz87_1 := blk_frozen BK416.out 1; have hfz87_2 := blk_frozen BK416.out 2; have hfz87_3 := blk_frozen BK416.out 3; have hfz87_4 := blk_frozen BK416.out 4; have hfz87_5 := blk_frozen BK416.out 5; have hfz87_6 := blk_frozen BK416.out 6; have hfz87_7 := blk_frozen BK416.out 7; have hfz87_8 := blk_frozen BK416.out 8))
      go_ret
      exact ⟨by first | rfl | (simp [errW_none, errW_some] <;> rfl) | (simp [*, errW_none, errW_some] <;> rfl), by repeat (first | (with_reducible first | exact HB.out | apply below_alloc | apply pw_below_drewN | apply below_drew1 | refine below_set ?_ GE416.out) | exact HB.out)⟩
  · replace c4 := Bool.eq_false_iff.mpr c4
    subst c4
    have H1 : (some false) = some r := by rw [if_neg (show ¬ (false = true) by decide)] at H; exact H
    clear H
    have H := H1
    clear H1
    obtain rfl := Option.some.inj H
    go_enter Try.func13, Try.ntmps13
    go_wp2_with (first | ((with_reducible refine gate_callee (f := 28) rfl ?_); refine goesL_ (some 12) rfl rfl Try.func28 (by kernel_rfl) rfl #[] rfl (by (try simp only [List.map_toArray, List.map_cons, List.map_nil]); first | done | rfl | (simp only [List.length_drop, List.length_take]; rfl)) ?_; (with_reducible refine (tithebarnlaw18_lives_c.calls  false _ (by first | exact A3.out | (have z_ := A3.out; (try rw [← Nbq15.out] at z_); exact z_))).mono ?_); rintro e w88 ⟨rfl, hb⟩; refine ⟨_, rfl, ?_⟩; have n0_ := Aside0.mk (below_step (by repeat (first | (with_reducible first | exact HB.out | apply below_alloc | apply pw_below_drewN | apply below_drew1) | exact HB.out)) hb); clear HB; have HB := n0_; clear n0_; (try clear hb); (try clear hb2); (try clear hk); (try clear hi)))
    go_ret
    exact ⟨by first | rfl | (simp [errW_none, errW_some] <;> rfl) | (simp [*, errW_none, errW_some] <;> rfl), by repeat (first | (with_reducible first | exact HB.out | apply below_alloc | apply pw_below_drewN | apply below_drew1) | exact HB.out)⟩

end Go.Proofs.Ytknkncidlfobiaa.Pr
