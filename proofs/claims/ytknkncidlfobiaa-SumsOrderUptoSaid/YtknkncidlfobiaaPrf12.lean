-- printed by xprint.py (this seat's own program, over the kit's print.py); not trusted: Lean checks it
import Derived.Test.YtknkncidlfobiaaPr0
import Derived.Test.YtknkncidlfobiaaPrE52
import Derived.Test.YtknkncidlfobiaaPrf29
import Derived.Test.YtknkncidlfobiaaPrf32
import Derived.Test.YtknkncidlfobiaaPrf28
namespace Go.Proofs.Ytknkncidlfobiaa.Pr
open Go.RowKit Go.Proofs.YtknkncidlfobiaaW.PrintWords Go.Proofs.YtknkncidlfobiaaW.PrintLast Go.Proofs.YtknkncidlfobiaaW.PrintMore
attribute [local go_sem] max2_int min2_int max_two min_two max_three min_three max_four min_four   -- for this text's walks alone
set_option linter.unusedVariables false
set_option linter.unusedSimpArgs false

attribute [local go_sem high] eqA52
/-! ### tithebarnlaw18_SumsOrder: function 12 -/
mutual
def tithebarnlaw18_SumsOrder.l0 : Nat → List (List (S23)) → Int → List Int → Int → List (List (S23)) → Int → Int → Int → Int → Bool → Int → ByteArray → Bool → Int → ByteArray → Option (Bool)
  | 0, _, _, _, _, _, _, _, _, _, _, _, _, _, _, _ => none
  | k + 1, x0, x1, x2, x8, x9, x10, x363000, x363001, x363002, x363003, x363004, x363005, x363006, x363007, x363008 => if x10 ≥ 0 then (if 0 ≤ x10 then (if x10 < (x0.length : Int) then (if x9.length < 5864062014805 then (tithebarnlaw18_SumsOrder.l0 k x0 x1 x2 x8 (x9 ++ [rd_L6 x0 x10]) (wrap64 (x10 - 1)) x363000 x363001 x363002 x363003 x363004 x363005 x363006 x363007 x363008) else (none)) else (none)) else (none)) else ((sums_Fold_c.f x9 x1).bind fun bt367 => (if (!(x363000 == bt367.1) || (!(x363001 == bt367.2.1) || (!(x363002 == bt367.2.2.1) || ((!(x363003 == bt367.2.2.2.1) || (!(x363004 == bt367.2.2.2.2.1) || (!(x363005.toList == bt367.2.2.2.2.2.1.toList)))) || ((!(x363006 == bt367.2.2.2.2.2.2.1) || (!(x363007 == bt367.2.2.2.2.2.2.2.1) || (!(x363008.toList == bt367.2.2.2.2.2.2.2.2.1.toList))))))))) = true then (tithebarnlaw18_SumsOrder.j1 k x0 x2 true) else (tithebarnlaw18_SumsOrder.j1 k x0 x2 (x8 != bt367.2.2.2.2.2.2.2.2.2))))
def tithebarnlaw18_SumsOrder.j1 : Nat → List (List (S23)) → List Int → Bool → Option (Bool)
  | 0, _, _, _ => none
  | k + 1, x0, x2, x55 => if x55 = true then (some false) else ((sums_Project_c.f x0 x2).bind fun bt378 => (tithebarnlaw18_SumsOrder.l1 k x0 x2 bt378.1 bt378.2 0))
def tithebarnlaw18_SumsOrder.l1 : Nat → List (List (S23)) → List Int → List (List (S23)) → Int → Int → Option (Bool)
  | 0, _, _, _, _, _ => none
  | k + 1, x0, x2, x13, x14, x15 => if x15 < (x2.length : Int) then (if x14 = 0 then (tithebarnlaw18_SumsOrder.j3 k x0 x2 x13 x14 x15 (decide ((x0.length : Int) > 0))) else (tithebarnlaw18_SumsOrder.j3 k x0 x2 x13 x14 x15 false)) else (tithebarnlaw18_SumsOrder.j3 k x0 x2 x13 x14 x15 false)
def tithebarnlaw18_SumsOrder.j3 : Nat → List (List (S23)) → List Int → List (List (S23)) → Int → Int → Bool → Option (Bool)
  | 0, _, _, _, _, _, _ => none
  | k + 1, x0, x2, x13, x14, x15, x74 => if x74 = true then ((sums_Fold_c.f x13 x15).bind fun bt382 => (if 0 ≤ x15 then (if x15 < (x2.length : Int) then ((sums_Fold_c.f x0 (rd x2 x15)).bind fun bt394 => (if (!(bt382.1 == bt394.1) || (!(bt382.2.1 == bt394.2.1) || (!(bt382.2.2.1 == bt394.2.2.1) || ((!(bt382.2.2.2.1 == bt394.2.2.2.1) || (!(bt382.2.2.2.2.1 == bt394.2.2.2.2.1) || (!(bt382.2.2.2.2.2.1.toList == bt394.2.2.2.2.2.1.toList)))) || ((!(bt382.2.2.2.2.2.2.1 == bt394.2.2.2.2.2.2.1) || (!(bt382.2.2.2.2.2.2.2.1 == bt394.2.2.2.2.2.2.2.1) || (!(bt382.2.2.2.2.2.2.2.2.1.toList == bt394.2.2.2.2.2.2.2.2.1.toList))))))))) = true then (tithebarnlaw18_SumsOrder.j4 k x0 x2 x13 x14 x15 true) else (if bt382.2.2.2.2.2.2.2.2.2 = 0 then (tithebarnlaw18_SumsOrder.j4 k x0 x2 x13 x14 x15 (bt394.2.2.2.2.2.2.2.2.2 != 0)) else (tithebarnlaw18_SumsOrder.j4 k x0 x2 x13 x14 x15 true)))) else (none)) else (none))) else (some true)
def tithebarnlaw18_SumsOrder.j4 : Nat → List (List (S23)) → List Int → List (List (S23)) → Int → Int → Bool → Option (Bool)
  | 0, _, _, _, _, _, _ => none
  | k + 1, x0, x2, x13, x14, x15, x102 => if x102 = true then (some false) else (tithebarnlaw18_SumsOrder.l1 k x0 x2 x13 x14 (wrap64 (x15 + 1)))
end
def tithebarnlaw18_SumsOrder.f (k : Nat) (l0 : List (List (S23))) (a1 : Int) (l2 : List Int) : Option (Bool) := (tithebarnlaw18_lives_c.f).bind fun t351 => (if t351 = true then ((sums_Fold_c.f l0 a1).bind fun bt352 => (tithebarnlaw18_SumsOrder.l0 k l0 a1 l2 bt352.2.2.2.2.2.2.2.2.2 ([] : List (List (S23))) (wrap64 ((l0.length : Int) - 1)) bt352.1 bt352.2.1 bt352.2.2.1 bt352.2.2.2.1 bt352.2.2.2.2.1 bt352.2.2.2.2.2.1 bt352.2.2.2.2.2.2.1 bt352.2.2.2.2.2.2.2.1 bt352.2.2.2.2.2.2.2.2.1)) else (some false))
theorem tithebarnlaw18_SumsOrder.mono_l : ∀ k, (∀ y0 y1 y2 y3 y4 y5 y6 y7 y8 y9 y10 y11 y12 y13 y14, LeO (tithebarnlaw18_SumsOrder.l0 k y0 y1 y2 y3 y4 y5 y6 y7 y8 y9 y10 y11 y12 y13 y14) (tithebarnlaw18_SumsOrder.l0 (k + 1) y0 y1 y2 y3 y4 y5 y6 y7 y8 y9 y10 y11 y12 y13 y14)) ∧ (∀ y0 y1 y2, LeO (tithebarnlaw18_SumsOrder.j1 k y0 y1 y2) (tithebarnlaw18_SumsOrder.j1 (k + 1) y0 y1 y2)) ∧ (∀ y0 y1 y2 y3 y4, LeO (tithebarnlaw18_SumsOrder.l1 k y0 y1 y2 y3 y4) (tithebarnlaw18_SumsOrder.l1 (k + 1) y0 y1 y2 y3 y4)) ∧ (∀ y0 y1 y2 y3 y4 y5, LeO (tithebarnlaw18_SumsOrder.j3 k y0 y1 y2 y3 y4 y5) (tithebarnlaw18_SumsOrder.j3 (k + 1) y0 y1 y2 y3 y4 y5)) ∧ (∀ y0 y1 y2 y3 y4 y5, LeO (tithebarnlaw18_SumsOrder.j4 k y0 y1 y2 y3 y4 y5) (tithebarnlaw18_SumsOrder.j4 (k + 1) y0 y1 y2 y3 y4 y5))
  | 0 => ⟨fun _ _ _ _ _ _ _ _ _ _ _ _ _ _ _ r h => by simp [tithebarnlaw18_SumsOrder.l0] at h, fun _ _ _ r h => by simp [tithebarnlaw18_SumsOrder.j1] at h, fun _ _ _ _ _ r h => by simp [tithebarnlaw18_SumsOrder.l1] at h, fun _ _ _ _ _ _ r h => by simp [tithebarnlaw18_SumsOrder.j3] at h, fun _ _ _ _ _ _ r h => by simp [tithebarnlaw18_SumsOrder.j4] at h⟩
  | k + 1 => by
    obtain ⟨ih0, ih1, ih2, ih3, ih4⟩ := tithebarnlaw18_SumsOrder.mono_l k
    refine ⟨?_, ?_, ?_, ?_, ?_⟩
    · intro y0 y1 y2 y3 y4 y5 y6 y7 y8 y9 y10 y11 y12 y13 y14
      unfold tithebarnlaw18_SumsOrder.l0
      repeat' first
      | (with_reducible exact ih0 _ _ _ _ _ _ _ _ _ _ _ _ _ _ _)
      | (with_reducible exact ih1 _ _ _)
      | (with_reducible exact ih2 _ _ _ _ _)
      | (with_reducible exact ih3 _ _ _ _ _ _)
      | (with_reducible exact ih4 _ _ _ _ _ _)
      | (with_reducible exact LeO.refl _)
      | (with_reducible exact LeO.none _)
      | (with_reducible refine LeO.ite ?_ ?_)
      | (with_reducible refine LeO.bind ?_ (fun _ => ?_))
      | exact ih0 _ _ _ _ _ _ _ _ _ _ _ _ _ _ _
      | exact ih1 _ _ _
      | exact ih2 _ _ _ _ _
      | exact ih3 _ _ _ _ _ _
      | exact ih4 _ _ _ _ _ _
      | exact LeO.none _
      | refine LeO.ite ?_ ?_
      | refine LeO.bind ?_ (fun _ => ?_)
    · intro y0 y1 y2
      unfold tithebarnlaw18_SumsOrder.j1
      repeat' first
      | (with_reducible exact ih0 _ _ _ _ _ _ _ _ _ _ _ _ _ _ _)
      | (with_reducible exact ih1 _ _ _)
      | (with_reducible exact ih2 _ _ _ _ _)
      | (with_reducible exact ih3 _ _ _ _ _ _)
      | (with_reducible exact ih4 _ _ _ _ _ _)
      | (with_reducible exact LeO.refl _)
      | (with_reducible exact LeO.none _)
      | (with_reducible refine LeO.ite ?_ ?_)
      | (with_reducible refine LeO.bind ?_ (fun _ => ?_))
      | exact ih0 _ _ _ _ _ _ _ _ _ _ _ _ _ _ _
      | exact ih1 _ _ _
      | exact ih2 _ _ _ _ _
      | exact ih3 _ _ _ _ _ _
      | exact ih4 _ _ _ _ _ _
      | exact LeO.none _
      | refine LeO.ite ?_ ?_
      | refine LeO.bind ?_ (fun _ => ?_)
    · intro y0 y1 y2 y3 y4
      unfold tithebarnlaw18_SumsOrder.l1
      repeat' first
      | (with_reducible exact ih0 _ _ _ _ _ _ _ _ _ _ _ _ _ _ _)
      | (with_reducible exact ih1 _ _ _)
      | (with_reducible exact ih2 _ _ _ _ _)
      | (with_reducible exact ih3 _ _ _ _ _ _)
      | (with_reducible exact ih4 _ _ _ _ _ _)
      | (with_reducible exact LeO.refl _)
      | (with_reducible exact LeO.none _)
      | (with_reducible refine LeO.ite ?_ ?_)
      | (with_reducible refine LeO.bind ?_ (fun _ => ?_))
      | exact ih0 _ _ _ _ _ _ _ _ _ _ _ _ _ _ _
      | exact ih1 _ _ _
      | exact ih2 _ _ _ _ _
      | exact ih3 _ _ _ _ _ _
      | exact ih4 _ _ _ _ _ _
      | exact LeO.none _
      | refine LeO.ite ?_ ?_
      | refine LeO.bind ?_ (fun _ => ?_)
    · intro y0 y1 y2 y3 y4 y5
      unfold tithebarnlaw18_SumsOrder.j3
      repeat' first
      | (with_reducible exact ih0 _ _ _ _ _ _ _ _ _ _ _ _ _ _ _)
      | (with_reducible exact ih1 _ _ _)
      | (with_reducible exact ih2 _ _ _ _ _)
      | (with_reducible exact ih3 _ _ _ _ _ _)
      | (with_reducible exact ih4 _ _ _ _ _ _)
      | (with_reducible exact LeO.refl _)
      | (with_reducible exact LeO.none _)
      | (with_reducible refine LeO.ite ?_ ?_)
      | (with_reducible refine LeO.bind ?_ (fun _ => ?_))
      | exact ih0 _ _ _ _ _ _ _ _ _ _ _ _ _ _ _
      | exact ih1 _ _ _
      | exact ih2 _ _ _ _ _
      | exact ih3 _ _ _ _ _ _
      | exact ih4 _ _ _ _ _ _
      | exact LeO.none _
      | refine LeO.ite ?_ ?_
      | refine LeO.bind ?_ (fun _ => ?_)
    · intro y0 y1 y2 y3 y4 y5
      unfold tithebarnlaw18_SumsOrder.j4
      repeat' first
      | (with_reducible exact ih0 _ _ _ _ _ _ _ _ _ _ _ _ _ _ _)
      | (with_reducible exact ih1 _ _ _)
      | (with_reducible exact ih2 _ _ _ _ _)
      | (with_reducible exact ih3 _ _ _ _ _ _)
      | (with_reducible exact ih4 _ _ _ _ _ _)
      | (with_reducible exact LeO.refl _)
      | (with_reducible exact LeO.none _)
      | (with_reducible refine LeO.ite ?_ ?_)
      | (with_reducible refine LeO.bind ?_ (fun _ => ?_))
      | exact ih0 _ _ _ _ _ _ _ _ _ _ _ _ _ _ _
      | exact ih1 _ _ _
      | exact ih2 _ _ _ _ _
      | exact ih3 _ _ _ _ _ _
      | exact ih4 _ _ _ _ _ _
      | exact LeO.none _
      | refine LeO.ite ?_ ?_
      | refine LeO.bind ?_ (fun _ => ?_)
theorem tithebarnlaw18_SumsOrder.mono : ∀ a0 a1 a2 k, LeO (tithebarnlaw18_SumsOrder.f k a0 a1 a2) (tithebarnlaw18_SumsOrder.f (k + 1) a0 a1 a2) := by
  intro a0 a1 a2 k
  obtain ⟨ih0, ih1, ih2, ih3, ih4⟩ := tithebarnlaw18_SumsOrder.mono_l k
  unfold tithebarnlaw18_SumsOrder.f
  repeat' first
      | (with_reducible exact ih0 _ _ _ _ _ _ _ _ _ _ _ _ _ _ _)
      | (with_reducible exact ih1 _ _ _)
      | (with_reducible exact ih2 _ _ _ _ _)
      | (with_reducible exact ih3 _ _ _ _ _ _)
      | (with_reducible exact ih4 _ _ _ _ _ _)
      | (with_reducible exact LeO.refl _)
      | (with_reducible exact LeO.none _)
      | (with_reducible refine LeO.ite ?_ ?_)
      | (with_reducible refine LeO.bind ?_ (fun _ => ?_))
      | exact ih0 _ _ _ _ _ _ _ _ _ _ _ _ _ _ _
      | exact ih1 _ _ _
      | exact ih2 _ _ _ _ _
      | exact ih3 _ _ _ _ _ _
      | exact ih4 _ _ _ _ _ _
      | exact LeO.none _
      | refine LeO.ite ?_ ?_
      | refine LeO.bind ?_ (fun _ => ?_)
set_option maxHeartbeats 8000000 in
set_option maxRecDepth 100000 in
theorem tithebarnlaw18_SumsOrder.calls (k : Nat) (P0_ : Nat → Prop) (A0 : Option Addr) (c0 : Nat) (l0 : List (List (S23))) (a1 : Int) (A2 : Option Addr) (c2 : Nat) (l2 : List Int) (r : Bool) (w : World) (hs0 : Kd.V (Kd.slice 23 k23) 34 w w.heap.size (fun k_ => P0_ k_) (.slice A0 l0.length c0) l0) (hr2 : Kd.C (Kd.int .i64) w A2 l2.length l2) (hc2 : l2.length ≤ c2) (h : tithebarnlaw18_SumsOrder.f k l0 a1 l2 = some r) :
    Calls Try.prog 12 #[.slice A0 l0.length c0, .int .i64 a1, .slice A2 l2.length c2] w fun e w' => e = .returned (.bool r) ∧ Below w.heap.size w w' := by
  have hu52 := Try.underlying52
  have HO0 := Aside0.mk (show Kd.V (Kd.slice 23 k23) 34 w w.heap.size (fun k_ => (P0_ k_ ∨ w.heap.size ≤ k_)) (.slice A0 l0.length c0) l0 from Kd.V_mono hs0 (fun k_ hk => .inl hk))
  have HR2 := Aside0.mk hr2
  have HC2 := Aside0.mk hc2
  clear hr2 hc2
  have HB := Aside0.mk (Below.refl w.heap.size w)
  have H : ((tithebarnlaw18_lives_c.f).bind fun t351 => (if t351 = true then ((sums_Fold_c.f l0 a1).bind fun bt352 => (tithebarnlaw18_SumsOrder.l0 k l0 a1 l2 bt352.2.2.2.2.2.2.2.2.2 ([] : List (List (S23))) (wrap64 ((l0.length : Int) - 1)) bt352.1 bt352.2.1 bt352.2.2.1 bt352.2.2.2.1 bt352.2.2.2.2.1 bt352.2.2.2.2.2.1 bt352.2.2.2.2.2.2.1 bt352.2.2.2.2.2.2.2.1 bt352.2.2.2.2.2.2.2.2.1)) else (some false))) = some r := h
  clear h
  replace H := Option.bind_eq_some_iff.mp H
  obtain ⟨t351, A40, H⟩ := H
  replace H : (if t351 = true then ((sums_Fold_c.f l0 a1).bind fun bt352 => (tithebarnlaw18_SumsOrder.l0 k l0 a1 l2 bt352.2.2.2.2.2.2.2.2.2 ([] : List (List (S23))) (wrap64 ((l0.length : Int) - 1)) bt352.1 bt352.2.1 bt352.2.2.1 bt352.2.2.2.1 bt352.2.2.2.2.1 bt352.2.2.2.2.2.1 bt352.2.2.2.2.2.2.1 bt352.2.2.2.2.2.2.2.1 bt352.2.2.2.2.2.2.2.2.1)) else (some false)) = some r := H
  have A4 := Aside0.mk A40
  clear A40
  by_cases c5 : t351 = true
  · subst c5
    have H1 : ((sums_Fold_c.f l0 a1).bind fun bt352 => (tithebarnlaw18_SumsOrder.l0 k l0 a1 l2 bt352.2.2.2.2.2.2.2.2.2 ([] : List (List (S23))) (wrap64 ((l0.length : Int) - 1)) bt352.1 bt352.2.1 bt352.2.2.1 bt352.2.2.2.1 bt352.2.2.2.2.1 bt352.2.2.2.2.2.1 bt352.2.2.2.2.2.2.1 bt352.2.2.2.2.2.2.2.1 bt352.2.2.2.2.2.2.2.2.1)) = some r := by rw [if_pos rfl] at H; exact H
    clear H
    have H := H1
    clear H1
    replace H := Option.bind_eq_some_iff.mp H
    obtain ⟨⟨t352, t353, t354, t355, t356, t357, t358, t359, t360, t361⟩, A60, H⟩ := H
    replace H : (tithebarnlaw18_SumsOrder.l0 k l0 a1 l2 t361 ([] : List (List (S23))) (wrap64 ((l0.length : Int) - 1)) t352 t353 t354 t355 t356 t357 t358 t359 t360) = some r := H
    have A6 := Aside0.mk A60
    clear A60
    have H' := Aside0.mk H
    clear H
    go_enter Try.func12, Try.ntmps12
    go_wp2_with (first | ((with_reducible refine gate_callee (f := 28) rfl ?_); refine goesL_ (some 20) rfl rfl Try.func28 (by kernel_rfl) rfl #[] rfl (by (try simp only [List.map_toArray, List.map_cons, List.map_nil]); first | done | rfl | (simp only [List.length_drop, List.length_take]; rfl)) ?_; (with_reducible refine (tithebarnlaw18_lives_c.calls  true _ A4.out).mono ?_); rintro e w7 ⟨rfl, hb⟩; refine ⟨_, rfl, ?_⟩; have n0_ := Aside0.mk (Kd.V_below (by (with_reducible repeat (first | apply Kd.V_alloc | apply Kd.V_drewN | apply Kd.V_drew)); exact HO0.out) hb); have n1_ := Aside0.mk (below_step (by repeat (first | (with_reducible first | exact HB.out | apply below_alloc | apply pw_below_drewN | apply below_drew1) | exact HB.out)) hb); clear HO0; clear HB; have HO0 := n0_; have HB := n1_; clear n0_ n1_; (try clear hb); (try clear hb2); (try clear hk); (try clear hi)) | ((with_reducible refine gate_callee (f := 32) rfl ?_); refine goesL_ (some 25) rfl rfl Try.func32 (by kernel_rfl) rfl #[.slice A0 l0.length c0, .int .i64 a1] rfl (by (try simp only [List.map_toArray, List.map_cons, List.map_nil]); first | done | rfl | (simp only [List.length_drop, List.length_take]; rfl)) ?_; (with_reducible refine (sums_Fold_c.calls _ _ l0 a1 t352 t353 t354 t355 t356 t357 t358 t359 t360 t361 _ ?side1 ?side2 A6.out).mono ?_); (case side1 => repeat (first | exact (Kd.V_reads' HO0.out).2.2 | (with_reducible refine Kd.C_alloc ?_ _) | (with_reducible refine Kd.C_drewN ?_ _) | (with_reducible refine Kd.C_drew ?_))); (case side2 => exact (Kd.V_reads' HO0.out).2.1); rintro e w8 ⟨rfl, hb⟩; refine ⟨_, rfl, ?_⟩; have n0_ := Aside0.mk (Kd.V_below (by (with_reducible repeat (first | apply Kd.V_alloc | apply Kd.V_drewN | apply Kd.V_drew)); exact HO0.out) hb); have n1_ := Aside0.mk (below_step (by repeat (first | (with_reducible first | exact HB.out | apply below_alloc | apply pw_below_drewN | apply below_drew1) | exact HB.out)) hb); clear HO0; clear HB; have HO0 := n0_; have HB := n1_; clear n0_ n1_; (try clear hb); (try clear hb2); (try clear hk); (try clear hi)) | ((with_reducible refine gate_dst (N := 7) rfl ?_); (try (refine gate_guard (by rfl) ?_; dsimp only)); refine box_event ?hg (N := 7) ?hd (cs := #[.int .i64 0, .int .i64 0, .int .i64 0, .bool false, .int .i64 0, .string (⟨#[]⟩ : ByteArray), .bool false, .int .i64 0, .string (⟨#[]⟩ : ByteArray)]) (t := 52) ?hr ?_; (case hd => rfl); (case hg => rfl); (case hr => first | (go_simp; done) | (go_simp; rfl)); intro gb362 hg w9 hbox hb; have n0_ := Aside0.mk (Kd.V_below (Kd.V_elderB (by (with_reducible repeat (first | apply Kd.V_alloc | apply Kd.V_drewN | apply Kd.V_drew)); exact HO0.out) gb362 (Nat.le_of_eq hg.symm)) hb); have n1_ := Aside0.mk (below_step (by repeat (first | (with_reducible first | exact HB.out | apply below_alloc | apply pw_below_drewN | apply below_drew1) | exact HB.out)) hb); have n2_ := Aside0.mk (hbox); have n3_ := Aside0.mk ((by rw [hg]; exact (below_size (by repeat (first | (with_reducible first | exact HB.out | apply below_alloc | apply pw_below_drewN | apply below_drew1) | exact HB.out))) : w.heap.size ≤ gb362)); have n4_ := Aside0.mk ((by rw [hg]; exact (below_size (by repeat (first | (with_reducible first | exact HB.out | apply below_alloc | apply pw_below_drewN | apply below_drew1) | exact HB.out))) : w.heap.size ≤ gb362)); clear HO0; clear HB; have HO0 := n0_; have HB := n1_; have BK362 := n2_; have GW362 := n3_; have GE362 := n4_; clear n0_ n1_ n2_ n3_ n4_; clear hb hbox hg; have hcz10_0 : w9.cell? ⟨gb362, 0, none⟩ = some (.int .i64 0) := (blk_cell BK362.out 0).trans rfl; have hcz10_1 : w9.cell? ⟨gb362, 1, none⟩ = some (.int .i64 0) := (blk_cell BK362.out 1).trans rfl; have hcz10_2 : w9.cell? ⟨gb362, 2, none⟩ = some (.int .i64 0) := (blk_cell BK362.out 2).trans rfl; have hcz10_3 : w9.cell? ⟨gb362, 3, none⟩ = some (.bool false) := (blk_cell BK362.out 3).trans rfl; have hcz10_4 : w9.cell? ⟨gb362, 4, none⟩ = some (.int .i64 0) := (blk_cell BK362.out 4).trans rfl; have hcz10_5 : w9.cell? ⟨gb362, 5, none⟩ = some (.string (⟨#[]⟩ : ByteArray)) := (blk_cell BK362.out 5).trans rfl; have hcz10_6 : w9.cell? ⟨gb362, 6, none⟩ = some (.bool false) := (blk_cell BK362.out 6).trans rfl; have hcz10_7 : w9.cell? ⟨gb362, 7, none⟩ = some (.int .i64 0) := (blk_cell BK362.out 7).trans rfl; have hcz10_8 : w9.cell? ⟨gb362, 8, none⟩ = some (.string (⟨#[]⟩ : ByteArray)) := (blk_cell BK362.out 8).trans rfl; have hfz10_0 := blk_frozen BK362.out 0; have hfz10_1 := blk_frozen BK362.out 1; have hfz10_2 := blk_frozen BK362.out 2; have hfz10_3 := blk_frozen BK362.out 3; have hfz10_4 := blk_frozen BK362.out 4; have hfz10_5 := blk_frozen BK362.out 5; have hfz10_6 := blk_frozen BK362.out 6; have hfz10_7 := blk_frozen BK362.out 7; have hfz10_8 := blk_frozen BK362.out 8))
    go_loopg [9, 10] k (fun kq v9 v10 w' => ∃ (x9_1 : List (List (S23))) (x10_1 : Int), v10 = .int .i64 x10_1 ∧ Aside0 (tithebarnlaw18_SumsOrder.l0 kq l0 a1 l2 t361 x9_1 x10_1 t352 t353 t354 t355 t356 t357 t358 t359 t360 = some r) ∧ Aside0 (kq ≤ k) ∧ Aside0 (Kd.V (Kd.slice 23 k23) 34 w' w.heap.size (fun k_ => (P0_ k_ ∨ w.heap.size ≤ k_) ∧ some k_ ≠ (v9 : Value).ownBlock ∧ k_ ≠ gb362) (.slice A0 l0.length c0) l0) ∧ Aside0 (Kd.N (Kd.slice 23 k23) 34 w' w.heap.size (fun k_ => (P0_ k_ ∨ w.heap.size ≤ k_) ∧ k_ ≠ gb362) v9 x9_1) ∧ Aside0 (w'.heap[gb362]? = some (.cells #[.int .i64 t352, .int .i64 t353, .int .i64 t354, .bool t355, .int .i64 t356, .string t357, .bool t358, .int .i64 t359, .string t360] 52 (0, 0))) ∧ Aside0 (Below w.heap.size w w'))
    case atStart => exact ⟨(([] : List (List (S23)))), (wrap64 ((l0.length : Int) - 1)), (by first | rfl | (simp; done) | (simp [*]; done)), H', ⟨Nat.le_refl _⟩, ⟨by (with_reducible repeat (first | apply Kd.V_alloc | apply Kd.V_drewN | apply Kd.V_drew)); exact Kd.V_mono (Kd.V_far (p := ⟨gb362, 8, none⟩) (Kd.V_far (p := ⟨gb362, 7, none⟩) (Kd.V_far (p := ⟨gb362, 6, none⟩) (Kd.V_far (p := ⟨gb362, 5, none⟩) (Kd.V_far (p := ⟨gb362, 4, none⟩) (Kd.V_far (p := ⟨gb362, 3, none⟩) (Kd.V_far (p := ⟨gb362, 2, none⟩) (Kd.V_far (p := ⟨gb362, 1, none⟩) (Kd.V_far (p := ⟨gb362, 0, none⟩) (Kd.V_mono HO0.out (fun k_ hk => (⟨hk, hk.2⟩ : _ ∧ k_ ≠ gb362))) (fun _ hk => hk.2) (.int .i64 t352)) (fun _ hk => hk.2) (.int .i64 t353)) (fun _ hk => hk.2) (.int .i64 t354)) (fun _ hk => hk.2) (.bool t355)) (fun _ hk => hk.2) (.int .i64 t356)) (fun _ hk => hk.2) (.string t357)) (fun _ hk => hk.2) (.bool t358)) (fun _ hk => hk.2) (.int .i64 t359)) (fun _ hk => hk.2) (.string t360)) (fun _ hk => ⟨hk.1.1, ⟨(by simp [Value.ownBlock]), hk.1.2⟩⟩)⟩, ⟨by first | exact Kd.S_nil _ _ _ _ _ | exact Kd.N_nil _ _ _ _ _ | exact Kd.V_nil _ _ _ _ _ | exact Kd.Q_nil _ _ _ _ _ | exact Kd.R_nil _ _ _ _ _⟩, ⟨by (with_reducible repeat (first | refine blk_drewN ?_ _ | refine blk_drew ?_ | refine blk_alloc ?_ _)); refine blk_put (cs := #[.int .i64 t352, .int .i64 t353, .int .i64 t354, .bool t355, .int .i64 t356, .string t357, .bool t358, .int .i64 t359, .string (⟨#[]⟩ : ByteArray)]) ?_ 8 _ rfl; (with_reducible repeat (first | refine blk_drewN ?_ _ | refine blk_drew ?_ | refine blk_alloc ?_ _)); refine blk_put (cs := #[.int .i64 t352, .int .i64 t353, .int .i64 t354, .bool t355, .int .i64 t356, .string t357, .bool t358, .int .i64 0, .string (⟨#[]⟩ : ByteArray)]) ?_ 7 _ rfl; (with_reducible repeat (first | refine blk_drewN ?_ _ | refine blk_drew ?_ | refine blk_alloc ?_ _)); refine blk_put (cs := #[.int .i64 t352, .int .i64 t353, .int .i64 t354, .bool t355, .int .i64 t356, .string t357, .bool false, .int .i64 0, .string (⟨#[]⟩ : ByteArray)]) ?_ 6 _ rfl; (with_reducible repeat (first | refine blk_drewN ?_ _ | refine blk_drew ?_ | refine blk_alloc ?_ _)); refine blk_put (cs := #[.int .i64 t352, .int .i64 t353, .int .i64 t354, .bool t355, .int .i64 t356, .string (⟨#[]⟩ : ByteArray), .bool false, .int .i64 0, .string (⟨#[]⟩ : ByteArray)]) ?_ 5 _ rfl; (with_reducible repeat (first | refine blk_drewN ?_ _ | refine blk_drew ?_ | refine blk_alloc ?_ _)); refine blk_put (cs := #[.int .i64 t352, .int .i64 t353, .int .i64 t354, .bool t355, .int .i64 0, .string (⟨#[]⟩ : ByteArray), .bool false, .int .i64 0, .string (⟨#[]⟩ : ByteArray)]) ?_ 4 _ rfl; (with_reducible repeat (first | refine blk_drewN ?_ _ | refine blk_drew ?_ | refine blk_alloc ?_ _)); refine blk_put (cs := #[.int .i64 t352, .int .i64 t353, .int .i64 t354, .bool false, .int .i64 0, .string (⟨#[]⟩ : ByteArray), .bool false, .int .i64 0, .string (⟨#[]⟩ : ByteArray)]) ?_ 3 _ rfl; (with_reducible repeat (first | refine blk_drewN ?_ _ | refine blk_drew ?_ | refine blk_alloc ?_ _)); refine blk_put (cs := #[.int .i64 t352, .int .i64 t353, .int .i64 0, .bool false, .int .i64 0, .string (⟨#[]⟩ : ByteArray), .bool false, .int .i64 0, .string (⟨#[]⟩ : ByteArray)]) ?_ 2 _ rfl; (with_reducible repeat (first | refine blk_drewN ?_ _ | refine blk_drew ?_ | refine blk_alloc ?_ _)); refine blk_put (cs := #[.int .i64 t352, .int .i64 0, .int .i64 0, .bool false, .int .i64 0, .string (⟨#[]⟩ : ByteArray), .bool false, .int .i64 0, .string (⟨#[]⟩ : ByteArray)]) ?_ 1 _ rfl; (with_reducible repeat (first | refine blk_drewN ?_ _ | refine blk_drew ?_ | refine blk_alloc ?_ _)); refine blk_put (cs := #[.int .i64 0, .int .i64 0, .int .i64 0, .bool false, .int .i64 0, .string (⟨#[]⟩ : ByteArray), .bool false, .int .i64 0, .string (⟨#[]⟩ : ByteArray)]) ?_ 0 _ rfl; (with_reducible repeat (first | refine blk_drewN ?_ _ | refine blk_drew ?_ | refine blk_alloc ?_ _)); exact BK362.out⟩, ⟨by repeat (first | (with_reducible first | exact HB.out | apply below_alloc | apply pw_below_drewN | apply below_drew1 | refine below_set ?_ GE362.out) | exact HB.out)⟩⟩
    case round =>
      clear H'
      try clear c1
      try clear c2
      try clear p2
      try clear c3
      try clear c5
      try clear p6
      try clear hcz10_0
      try clear hcz10_1
      try clear hcz10_2
      try clear hcz10_3
      try clear hcz10_4
      try clear hcz10_5
      try clear hcz10_6
      try clear hcz10_7
      try clear hcz10_8
      try clear hfz10_0
      try clear hfz10_1
      try clear hfz10_2
      try clear hfz10_3
      try clear hfz10_4
      try clear hfz10_5
      try clear hfz10_6
      try clear hfz10_7
      try clear hfz10_8
      obtain ⟨x9_1, x10_1, rfl, HA, HK1, HO_0, HO_9, BK362, HB⟩ := hrel
      cases gk with
      | zero => exact absurd HA.out (by simp [tithebarnlaw18_SumsOrder.l0])
      | succ k1 =>
        have H := HA.out
        clear HA
        simp only [tithebarnlaw18_SumsOrder.l0] at H
        by_cases c11 : x10_1 ≥ 0
        · rw [if_pos c11] at H
          have c11b0 : decide (0 ≤ x10_1) = true := decide_eq_true c11
          clear c11
          by_cases c12 : 0 ≤ x10_1
          · rw [if_pos c12] at H
            have c12b0 : decide (0 ≤ x10_1) = true := decide_eq_true c12
            clear c12
            by_cases c13 : x10_1 < (l0.length : Int)
            · rw [if_pos c13] at H
              have c13b0 : decide (x10_1 < (l0.length : Int)) = true := decide_eq_true c13
              clear c13
              by_cases c14 : x9_1.length < 5864062014805
              · rw [if_pos c14] at H
                have LMc14 := Aside0.mk c14
                clear c14
                obtain ⟨y364, hy364⟩ : ∃ y_ : List (List (S23)), y_ = (x9_1 ++ [rd_L6 l0 x10_1]) := ⟨_, rfl⟩
                replace H : (tithebarnlaw18_SumsOrder.l0 k1 l0 a1 l2 t361 y364 (wrap64 (x10_1 - 1)) t352 t353 t354 t355 t356 t357 t358 t359 t360) = some r := by first | (rw [hy364]; with_reducible exact H) | (have H2_ := (Option.bind_some _ _).symm.trans H; rw [hy364]; with_reducible exact H2_) | (have H2_ := (Option.bind_some _ _).symm.trans H; with_reducible exact H2_) | with_reducible exact H | (rw [hy364]; exact H) | exact H
                have Ny364 := Aside0.mk hy364
                clear hy364
                have H' := Aside0.mk H
                clear H
                have p363 : 0 ≤ (x10_1 : Int) := of_decide_eq_true (by first | (with_reducible assumption) | assumption)
                have q363 : x10_1 < (l0.length : Int) := of_decide_eq_true (by first | (with_reducible assumption) | assumption)
                obtain ⟨ad363, A363_0, c363_0, e363, hx363_0, hl363_0, hi363_0⟩ := at_L6 (Kd.V_reads' HO_0.out).2.2 x10_1 p363 q363
                cases e363
                obtain ⟨ce363, hce363, hMe363, hcc363⟩ := Kd.V_get HO_0.out [] x10_1 p363 (by first | exact q363 | exact of_decide_eq_true (by first | (with_reducible assumption) | assumption) | (have e_ := (Kd.V_reads' HO_0.out).1; omega))
                obtain ⟨ua363_0, uc363_0, rfl, ul363_0, ge363_0⟩ := Kd.FK_slice_open hMe363
                have hv363_0 := hcc363 0 _ rfl
                rw [Nat.add_zero, show ((Kd.slice 23 k23)).sz = 1 from rfl, Nat.mul_one] at hv363_0
                replace hv363_0 := Option.some.inj (hv363_0.symm.trans hx363_0)
                injection hv363_0 with hva_ hvn_ hvc_
                rw [hva_] at ge363_0
                rw [hvc_] at ul363_0
                have HL363_0 := Aside0.mk (show Kd.V k23 23 _ w.heap.size _ _ (rd_L6 l0 x10_1) from Kd.V_mk ul363_0 ge363_0)
                clear hva_ hvn_ hvc_ ge363_0 ul363_0
                clear hcc363 hce363
                have HR363_0 := Aside0.mk hi363_0
                have HC363_0 := Aside0.mk hl363_0
                clear hi363_0 hl363_0
                replace p363 := eq_true p363
                replace q363 := eq_true q363
                go_wp2_with (first | ((with_reducible refine gate_builtin (b := .append) (xs := #[.tmp 35, .tmp 40]) rfl ?_); (try (refine gate_guard (by rfl) ?_; dsimp only)); at_builtin; refine Kd.N_append (Kd.slice 23 k23) (w0 := w) w.heap.size rfl (.tmp 35) (.tmp 40) 45 34 (.slice none 0 0) 24 rfl Try.underlying45 info34 rfl (by decide) (by omega) u9 x9_1 (rd_L6 l0 x10_1) [.slice A363_0 (rd_L6 l0 x10_1).length c363_0] (fun k_ => (P0_ k_ ∨ w.heap.size ≤ k_) ∧ k_ ≠ gb362) (fun k_ => ((fun k_ => (P0_ k_ ∨ w.heap.size ≤ k_) ∧ k_ ≠ gb362)) k_ ∧ some k_ ≠ (u9 : Value).ownBlock) rfl rfl ?aP (fun _ hk => hk) ?aF ?aO ?aB ?aS ?aL ?_; (case aP => exact (Kd.FK_slice_mk (Kd.V_reads' (Kd.V_mono (ok' := (fun k_ => ((fun k_ => (P0_ k_ ∨ w.heap.size ≤ k_) ∧ k_ ≠ gb362)) k_ ∧ some k_ ≠ (u9 : Value).ownBlock)) (HL363_0.out) (fun k_ hk => ⟨⟨hk.1, hk.2.2⟩, hk.2.1⟩))).2.1 (Kd.V_F (Kd.V_mono (ok' := (fun k_ => ((fun k_ => (P0_ k_ ∨ w.heap.size ≤ k_) ∧ k_ ≠ gb362)) k_ ∧ some k_ ≠ (u9 : Value).ownBlock)) (HL363_0.out) (fun k_ hk => ⟨⟨hk.1, hk.2.2⟩, hk.2.1⟩))))); (case aB => exact (by repeat (first | (with_reducible first | exact HB.out | apply below_alloc | apply pw_below_drewN | apply below_drew1 | refine below_set ?_ GE362.out) | exact HB.out))); (case aF => exact (fun k_ hk => ⟨(.inr (Nat.le_trans (below_size (by repeat (first | (with_reducible first | exact HB.out | apply below_alloc | apply pw_below_drewN | apply below_drew1 | refine below_set ?_ GE362.out) | exact HB.out))) hk)), Kd.freshB (g := gb362) (o := .cells #[.int .i64 t352, .int .i64 t353, .int .i64 t354, .bool t355, .int .i64 t356, .string t357, .bool t358, .int .i64 t359, .string t360] 52 (0, 0)) (by (with_reducible repeat (first | refine blk_drewN ?_ _ | refine blk_drew ?_ | refine blk_alloc ?_ _)); exact BK362.out) k_ hk⟩)); (case aO => exact (by (with_reducible repeat (first | apply Kd.N_alloc | apply Kd.N_drewN | apply Kd.N_drew)); exact HO_9.out)); (case aS => exact (below_size (by repeat (first | (with_reducible first | exact HB.out | apply below_alloc | apply pw_below_drewN | apply below_drew1 | refine below_set ?_ GE362.out) | exact HB.out)))); (case aL => have := LMc14.out; omega); intro v365 w15 ho hb hg hat; rw [← Ny364.out] at ho; have n0_ := Aside0.mk (Kd.V_afterv (ok := (fun k_ => (P0_ k_ ∨ w.heap.size ≤ k_) ∧ k_ ≠ gb362)) (by (with_reducible repeat (first | apply Kd.V_alloc | apply Kd.V_drewN | apply Kd.V_drew)); exact Kd.V_mono HO_0.out (fun _ hk => ⟨⟨hk.1, hk.2.2⟩, hk.2.1⟩)) hg hat); have n1_ := Aside0.mk (blk_grown (g := gb362) (o := .cells #[.int .i64 t352, .int .i64 t353, .int .i64 t354, .bool t355, .int .i64 t356, .string t357, .bool t358, .int .i64 t359, .string t360] 52 (0, 0)) (by (with_reducible repeat (first | refine blk_drewN ?_ _ | refine blk_drew ?_ | refine blk_alloc ?_ _)); exact BK362.out) hg (Kd.N_ne HO_9.out BK362.out (by decide))); have n2_ := Aside0.mk (Kd.V_afterv (ok := (fun k_ => (P0_ k_ ∨ w.heap.size ≤ k_) ∧ k_ ≠ gb362)) (by (with_reducible repeat (first | apply Kd.V_alloc | apply Kd.V_drewN | apply Kd.V_drew)); exact Kd.V_mono HL363_0.out (fun _ hk => ⟨⟨hk.1, hk.2.2⟩, hk.2.1⟩)) hg hat); have n3_ := Aside0.mk (hb); have n4_ := Aside0.mk (ho); clear HO_0; clear BK362; clear HL363_0; clear HB; clear HO_9; have HO_0 := n0_; have BK362 := n1_; have HL363_0 := n2_; have HB := n3_; have HO366 := n4_; clear n0_ n1_ n2_ n3_ n4_; clear ho hb hg hat))
                go_roundg k1
                case measure => have := HK1.out; omega
                case rel => exact ⟨(y364), (wrap64 (x10_1 - 1)), (by first | rfl | (simp; done) | (simp [*]; done)), H', ⟨by have := HK1.out; omega⟩, ⟨by (with_reducible repeat (first | apply Kd.V_alloc | apply Kd.V_drewN | apply Kd.V_drew)); exact Kd.V_mono HO_0.out (fun _ hk => ⟨hk.1.1, ⟨hk.2, hk.1.2⟩⟩)⟩, ⟨by (with_reducible repeat (first | apply Kd.N_alloc | apply Kd.N_drewN | apply Kd.N_drew)); exact HO366.out⟩, ⟨by (with_reducible repeat (first | refine blk_drewN ?_ _ | refine blk_drew ?_ | refine blk_alloc ?_ _)); exact BK362.out⟩, ⟨by repeat (first | (with_reducible first | exact HB.out | apply below_alloc | apply pw_below_drewN | apply below_drew1 | refine below_set ?_ GE362.out) | exact HB.out)⟩⟩
              · rw [if_neg c14] at H
                exact absurd H (by simp)
            · rw [if_neg c13] at H
              exact absurd H (by simp)
          · rw [if_neg c12] at H
            exact absurd H (by simp)
        · rw [if_neg c11] at H
          have c11b0 : decide (0 ≤ x10_1) = false := decide_eq_false c11
          clear c11
          replace H := Option.bind_eq_some_iff.mp H
          obtain ⟨⟨t367, t368, t369, t370, t371, t372, t373, t374, t375, t376⟩, A160, H⟩ := H
          replace H : (if (!(t352 == t367) || (!(t353 == t368) || (!(t354 == t369) || ((!(t355 == t370) || (!(t356 == t371) || (!(t357.toList == t372.toList)))) || ((!(t358 == t373) || (!(t359 == t374) || (!(t360.toList == t375.toList))))))))) = true then (tithebarnlaw18_SumsOrder.j1 k1 l0 l2 true) else (tithebarnlaw18_SumsOrder.j1 k1 l0 l2 (t361 != t376))) = some r := H
          have A16 := Aside0.mk A160
          clear A160
          have HC17 := Aside0.mk H
          clear H
          obtain ⟨Ao18, co18, eo18⟩ := Kd.N_slice HO_9.out
          subst eo18
          go_upto_region 10 with (first | ((with_reducible refine gate_callee (f := 32) rfl ?_); refine goesL_ (some 45) rfl rfl Try.func32 (by kernel_rfl) rfl #[.slice Ao18 x9_1.length co18, .int .i64 a1] rfl (by (try simp only [List.map_toArray, List.map_cons, List.map_nil]); first | done | rfl | (simp only [List.length_drop, List.length_take]; rfl)) ?_; (with_reducible refine (sums_Fold_c.calls _ _ x9_1 a1 t367 t368 t369 t370 t371 t372 t373 t374 t375 t376 _ ?side1 ?side2 A16.out).mono ?_); (case side1 => repeat (first | exact (Kd.N_reads' HO_9.out).2.2 | (with_reducible refine Kd.C_alloc ?_ _) | (with_reducible refine Kd.C_drewN ?_ _) | (with_reducible refine Kd.C_drew ?_))); (case side2 => exact (Kd.N_reads' HO_9.out).2.1); rintro e w19 ⟨rfl, hb⟩; refine ⟨_, rfl, ?_⟩; have n0_ := Aside0.mk (Kd.V_below (by (with_reducible repeat (first | apply Kd.V_alloc | apply Kd.V_drewN | apply Kd.V_drew)); exact HO_0.out) hb); have n1_ := Aside0.mk (Kd.N_below (by (with_reducible repeat (first | apply Kd.N_alloc | apply Kd.N_drewN | apply Kd.N_drew)); exact HO_9.out) hb); have n2_ := Aside0.mk (blk_below (g := gb362) (o := .cells #[.int .i64 t352, .int .i64 t353, .int .i64 t354, .bool t355, .int .i64 t356, .string t357, .bool t358, .int .i64 t359, .string t360] 52 (0, 0)) (by (with_reducible repeat (first | refine blk_drewN ?_ _ | refine blk_drew ?_ | refine blk_alloc ?_ _)); exact BK362.out) hb); have n3_ := Aside0.mk (below_step (by repeat (first | (with_reducible first | exact HB.out | apply below_alloc | apply pw_below_drewN | apply below_drew1 | refine below_set ?_ GE362.out) | exact HB.out)) hb); clear HO_0; clear HO_9; clear BK362; clear HB; have HO_0 := n0_; have HO_9 := n1_; have BK362 := n2_; have HB := n3_; clear n0_ n1_ n2_ n3_; (try clear hb); (try clear hb2); (try clear hk); (try clear hi)) | ((with_reducible refine gate_dst (N := 11) rfl ?_); (try (refine gate_guard (by rfl) ?_; dsimp only)); refine box_event ?hg (N := 11) ?hd (cs := #[.int .i64 0, .int .i64 0, .int .i64 0, .bool false, .int .i64 0, .string (⟨#[]⟩ : ByteArray), .bool false, .int .i64 0, .string (⟨#[]⟩ : ByteArray)]) (t := 52) ?hr ?_; (case hd => rfl); (case hg => rfl); (case hr => first | (go_simp; done) | (go_simp; rfl)); intro gb377 hg w20 hbox hb; have n0_ := Aside0.mk (Kd.V_below (Kd.V_elderB (by (with_reducible repeat (first | apply Kd.V_alloc | apply Kd.V_drewN | apply Kd.V_drew)); exact HO_0.out) gb377 (Nat.le_of_eq hg.symm)) hb); have n1_ := Aside0.mk (Kd.N_below (Kd.N_elderB (by (with_reducible repeat (first | apply Kd.N_alloc | apply Kd.N_drewN | apply Kd.N_drew)); exact HO_9.out) gb377 (Nat.le_of_eq hg.symm)) hb); have n2_ := Aside0.mk (blk_below (g := gb362) (o := .cells #[.int .i64 t352, .int .i64 t353, .int .i64 t354, .bool t355, .int .i64 t356, .string t357, .bool t358, .int .i64 t359, .string t360] 52 (0, 0)) (by (with_reducible repeat (first | refine blk_drewN ?_ _ | refine blk_drew ?_ | refine blk_alloc ?_ _)); exact BK362.out) hb); have n3_ := Aside0.mk (below_step (by repeat (first | (with_reducible first | exact HB.out | apply below_alloc | apply pw_below_drewN | apply below_drew1 | refine below_set ?_ GE362.out) | exact HB.out)) hb); have n4_ := Aside0.mk (hbox); have n5_ := Aside0.mk ((by rw [hg]; exact (below_size (by repeat (first | (with_reducible first | exact HB.out | apply below_alloc | apply pw_below_drewN | apply below_drew1 | refine below_set ?_ GE362.out) | exact HB.out))) : w.heap.size ≤ gb377)); have n6_ := Aside0.mk ((by rw [hg]; exact (below_size (by repeat (first | (with_reducible first | exact HB.out | apply below_alloc | apply pw_below_drewN | apply below_drew1 | refine below_set ?_ GE362.out) | exact HB.out))) : w.heap.size ≤ gb377)); have n7_ := Aside0.mk ((by rw [hg]; exact Nat.ne_of_lt (blk_lt (g := gb362) (o := .cells #[.int .i64 t352, .int .i64 t353, .int .i64 t354, .bool t355, .int .i64 t356, .string t357, .bool t358, .int .i64 t359, .string t360] 52 (0, 0)) (by (with_reducible repeat (first | refine blk_drewN ?_ _ | refine blk_drew ?_ | refine blk_alloc ?_ _)); exact BK362.out)) : gb362 ≠ gb377)); have n8_ := Aside0.mk ((by rw [hg]; exact Nat.ne_of_gt (blk_lt (g := gb362) (o := .cells #[.int .i64 t352, .int .i64 t353, .int .i64 t354, .bool t355, .int .i64 t356, .string t357, .bool t358, .int .i64 t359, .string t360] 52 (0, 0)) (by (with_reducible repeat (first | refine blk_drewN ?_ _ | refine blk_drew ?_ | refine blk_alloc ?_ _)); exact BK362.out)) : gb377 ≠ gb362)); clear HO_0; clear HO_9; clear BK362; clear HB; have HO_0 := n0_; have HO_9 := n1_; have BK362 := n2_; have HB := n3_; have BK377 := n4_; have GW377 := n5_; have GE377 := n6_; have NB362_377 := n7_; have NB377_362 := n8_; clear n0_ n1_ n2_ n3_ n4_ n5_ n6_ n7_ n8_; clear hb hbox hg; have hnb21 := NB377_362.out; have hnc21 := NB362_377.out; have hcz22_0 : w20.cell? ⟨gb377, 0, none⟩ = some (.int .i64 0) := (blk_cell BK377.out 0).trans rfl; have hcz22_1 : w20.cell? ⟨gb377, 1, none⟩ = some (.int .i64 0) := (blk_cell BK377.out 1).trans rfl; have hcz22_2 : w20.cell? ⟨gb377, 2, none⟩ = some (.int .i64 0) := (blk_cell BK377.out 2).trans rfl; have hcz22_3 : w20.cell? ⟨gb377, 3, none⟩ = some (.bool false) := (blk_cell BK377.out 3).trans rfl; have hcz22_4 : w20.cell? ⟨gb377, 4, none⟩ = some (.int .i64 0) := (blk_cell BK377.out 4).trans rfl; have hcz22_5 : w20.cell? ⟨gb377, 5, none⟩ = some (.string (⟨#[]⟩ : ByteArray)) := (blk_cell BK377.out 5).trans rfl; have hcz22_6 : w20.cell? ⟨gb377, 6, none⟩ = some (.bool false) := (blk_cell BK377.out 6).trans rfl; have hcz22_7 : w20.cell? ⟨gb377, 7, none⟩ = some (.int .i64 0) := (blk_cell BK377.out 7).trans rfl; have hcz22_8 : w20.cell? ⟨gb377, 8, none⟩ = some (.string (⟨#[]⟩ : ByteArray)) := (blk_cell BK377.out 8).trans rfl; have hfz22_0 := blk_frozen BK377.out 0; have hfz22_1 := blk_frozen BK377.out 1; have hfz22_2 := blk_frozen BK377.out 2; have hfz22_3 := blk_frozen BK377.out 3; have hfz22_4 := blk_frozen BK377.out 4; have hfz22_5 := blk_frozen BK377.out 5; have hfz22_6 := blk_frozen BK377.out 6; have hfz22_7 := blk_frozen BK377.out 7; have hfz22_8 := blk_frozen BK377.out 8))
          (try simp only [Act.put, List.setIfInBounds_toArray, List.set_cons_zero, List.set_cons_succ])
          go_cut [55] (fun v55 wc => ∃ (kq : Nat) (x55_16 : Bool), v55 = .bool x55_16 ∧ Aside0 (tithebarnlaw18_SumsOrder.j1 kq l0 l2 x55_16 = some r) ∧ Aside0 (kq ≤ k1) ∧ Aside0 (Kd.V (Kd.slice 23 k23) 34 wc w.heap.size (fun k_ => (P0_ k_ ∨ w.heap.size ≤ k_) ∧ k_ ≠ gb362 ∧ k_ ≠ gb377) (.slice A0 l0.length c0) l0) ∧ Aside0 (wc.heap[gb362]? = some (.cells #[.int .i64 t352, .int .i64 t353, .int .i64 t354, .bool t355, .int .i64 t356, .string t357, .bool t358, .int .i64 t359, .string t360] 52 (0, 0))) ∧ Aside0 (wc.heap[gb377]? = some (.cells #[.int .i64 t367, .int .i64 t368, .int .i64 t369, .bool t370, .int .i64 t371, .string t372, .bool t373, .int .i64 t374, .string t375] 52 (0, 0))) ∧ Aside0 (Below w.heap.size w wc))
          case first =>
            have H := HC17.out
            clear HC17
            by_cases c23 : (!(t352 == t367) || (!(t353 == t368) || (!(t354 == t369) || ((!(t355 == t370) || (!(t356 == t371) || (!(t357.toList == t372.toList)))) || ((!(t358 == t373) || (!(t359 == t374) || (!(t360.toList == t375.toList))))))))) = true
            · rw [if_pos c23] at H
              have c23b0 : (!(t352 == t367) || (!(t353 == t368) || (!(t354 == t369) || ((!(t355 == t370) || (!(t356 == t371) || (!(t357.toList == t372.toList)))) || ((!(t358 == t373) || (!(t359 == t374) || (!(t360.toList == t375.toList))))))))) = true := c23
              clear c23
              (first | rw [c23b0] | (simp only [i64_w, i32_w]; rw [c23b0]) | skip)
              have H' := Aside0.mk H
              clear H
              have hnb24 := NB362_377.out
              have hnc24 := NB377_362.out
              have hcz25_0 : w20.cell? ⟨gb362, 0, none⟩ = some (.int .i64 t352) := (blk_cell BK362.out 0).trans rfl
              have hcz25_1 : w20.cell? ⟨gb362, 1, none⟩ = some (.int .i64 t353) := (blk_cell BK362.out 1).trans rfl
              have hcz25_2 : w20.cell? ⟨gb362, 2, none⟩ = some (.int .i64 t354) := (blk_cell BK362.out 2).trans rfl
              have hcz25_3 : w20.cell? ⟨gb362, 3, none⟩ = some (.bool t355) := (blk_cell BK362.out 3).trans rfl
              have hcz25_4 : w20.cell? ⟨gb362, 4, none⟩ = some (.int .i64 t356) := (blk_cell BK362.out 4).trans rfl
              have hcz25_5 : w20.cell? ⟨gb362, 5, none⟩ = some (.string t357) := (blk_cell BK362.out 5).trans rfl
              have hcz25_6 : w20.cell? ⟨gb362, 6, none⟩ = some (.bool t358) := (blk_cell BK362.out 6).trans rfl
              have hcz25_7 : w20.cell? ⟨gb362, 7, none⟩ = some (.int .i64 t359) := (blk_cell BK362.out 7).trans rfl
              have hcz25_8 : w20.cell? ⟨gb362, 8, none⟩ = some (.string t360) := (blk_cell BK362.out 8).trans rfl
              have hfz25_0 := blk_frozen BK362.out 0
              have hfz25_1 := blk_frozen BK362.out 1
              have hfz25_2 := blk_frozen BK362.out 2
              have hfz25_3 := blk_frozen BK362.out 3
              have hfz25_4 := blk_frozen BK362.out 4
              have hfz25_5 := blk_frozen BK362.out 5
              have hfz25_6 := blk_frozen BK362.out 6
              have hfz25_7 := blk_frozen BK362.out 7
              have hfz25_8 := blk_frozen BK362.out 8
              have hcz26_0 : w20.cell? ⟨gb377, 0, none⟩ = some (.int .i64 0) := (blk_cell BK377.out 0).trans rfl
              have hcz26_1 : w20.cell? ⟨gb377, 1, none⟩ = some (.int .i64 0) := (blk_cell BK377.out 1).trans rfl
              have hcz26_2 : w20.cell? ⟨gb377, 2, none⟩ = some (.int .i64 0) := (blk_cell BK377.out 2).trans rfl
              have hcz26_3 : w20.cell? ⟨gb377, 3, none⟩ = some (.bool false) := (blk_cell BK377.out 3).trans rfl
              have hcz26_4 : w20.cell? ⟨gb377, 4, none⟩ = some (.int .i64 0) := (blk_cell BK377.out 4).trans rfl
              have hcz26_5 : w20.cell? ⟨gb377, 5, none⟩ = some (.string (⟨#[]⟩ : ByteArray)) := (blk_cell BK377.out 5).trans rfl
              have hcz26_6 : w20.cell? ⟨gb377, 6, none⟩ = some (.bool false) := (blk_cell BK377.out 6).trans rfl
              have hcz26_7 : w20.cell? ⟨gb377, 7, none⟩ = some (.int .i64 0) := (blk_cell BK377.out 7).trans rfl
              have hcz26_8 : w20.cell? ⟨gb377, 8, none⟩ = some (.string (⟨#[]⟩ : ByteArray)) := (blk_cell BK377.out 8).trans rfl
              have hfz26_0 := blk_frozen BK377.out 0
              have hfz26_1 := blk_frozen BK377.out 1
              have hfz26_2 := blk_frozen BK377.out 2
              have hfz26_3 := blk_frozen BK377.out 3
              have hfz26_4 := blk_frozen BK377.out 4
              have hfz26_5 := blk_frozen BK377.out 5
              have hfz26_6 := blk_frozen BK377.out 6
              have hfz26_7 := blk_frozen BK377.out 7
              have hfz26_8 := blk_frozen BK377.out 8
              go_wp2
              go_meet
              case rel => exact ⟨_, (true), (by first | rfl | (simp; done) | (simp [*]; done)), H', ⟨by have := HK1.out; first | omega | exact Nat.le_refl _⟩, ⟨by (with_reducible repeat (first | apply Kd.V_alloc | apply Kd.V_drewN | apply Kd.V_drew)); exact Kd.V_mono (Kd.V_far (p := ⟨gb377, 8, none⟩) (Kd.V_far (p := ⟨gb377, 7, none⟩) (Kd.V_far (p := ⟨gb377, 6, none⟩) (Kd.V_far (p := ⟨gb377, 5, none⟩) (Kd.V_far (p := ⟨gb377, 4, none⟩) (Kd.V_far (p := ⟨gb377, 3, none⟩) (Kd.V_far (p := ⟨gb377, 2, none⟩) (Kd.V_far (p := ⟨gb377, 1, none⟩) (Kd.V_far (p := ⟨gb377, 0, none⟩) (Kd.V_mono HO_0.out (fun k_ hk => (⟨hk, hk.2⟩ : _ ∧ k_ ≠ gb377))) (fun _ hk => hk.2) (.int .i64 t367)) (fun _ hk => hk.2) (.int .i64 t368)) (fun _ hk => hk.2) (.int .i64 t369)) (fun _ hk => hk.2) (.bool t370)) (fun _ hk => hk.2) (.int .i64 t371)) (fun _ hk => hk.2) (.string t372)) (fun _ hk => hk.2) (.bool t373)) (fun _ hk => hk.2) (.int .i64 t374)) (fun _ hk => hk.2) (.string t375)) (fun _ hk => ⟨hk.1.1.1, ⟨hk.1.1.2.2, hk.1.2⟩⟩)⟩, ⟨by (with_reducible repeat (first | refine blk_drewN ?_ _ | refine blk_drew ?_ | refine blk_alloc ?_ _)); refine blk_far ?_ NB362_377.out _; (with_reducible repeat (first | refine blk_drewN ?_ _ | refine blk_drew ?_ | refine blk_alloc ?_ _)); refine blk_far ?_ NB362_377.out _; (with_reducible repeat (first | refine blk_drewN ?_ _ | refine blk_drew ?_ | refine blk_alloc ?_ _)); refine blk_far ?_ NB362_377.out _; (with_reducible repeat (first | refine blk_drewN ?_ _ | refine blk_drew ?_ | refine blk_alloc ?_ _)); refine blk_far ?_ NB362_377.out _; (with_reducible repeat (first | refine blk_drewN ?_ _ | refine blk_drew ?_ | refine blk_alloc ?_ _)); refine blk_far ?_ NB362_377.out _; (with_reducible repeat (first | refine blk_drewN ?_ _ | refine blk_drew ?_ | refine blk_alloc ?_ _)); refine blk_far ?_ NB362_377.out _; (with_reducible repeat (first | refine blk_drewN ?_ _ | refine blk_drew ?_ | refine blk_alloc ?_ _)); refine blk_far ?_ NB362_377.out _; (with_reducible repeat (first | refine blk_drewN ?_ _ | refine blk_drew ?_ | refine blk_alloc ?_ _)); refine blk_far ?_ NB362_377.out _; (with_reducible repeat (first | refine blk_drewN ?_ _ | refine blk_drew ?_ | refine blk_alloc ?_ _)); refine blk_far ?_ NB362_377.out _; (with_reducible repeat (first | refine blk_drewN ?_ _ | refine blk_drew ?_ | refine blk_alloc ?_ _)); exact BK362.out⟩, ⟨by (with_reducible repeat (first | refine blk_drewN ?_ _ | refine blk_drew ?_ | refine blk_alloc ?_ _)); refine blk_put (cs := #[.int .i64 t367, .int .i64 t368, .int .i64 t369, .bool t370, .int .i64 t371, .string t372, .bool t373, .int .i64 t374, .string (⟨#[]⟩ : ByteArray)]) ?_ 8 _ rfl; (with_reducible repeat (first | refine blk_drewN ?_ _ | refine blk_drew ?_ | refine blk_alloc ?_ _)); refine blk_put (cs := #[.int .i64 t367, .int .i64 t368, .int .i64 t369, .bool t370, .int .i64 t371, .string t372, .bool t373, .int .i64 0, .string (⟨#[]⟩ : ByteArray)]) ?_ 7 _ rfl; (with_reducible repeat (first | refine blk_drewN ?_ _ | refine blk_drew ?_ | refine blk_alloc ?_ _)); refine blk_put (cs := #[.int .i64 t367, .int .i64 t368, .int .i64 t369, .bool t370, .int .i64 t371, .string t372, .bool false, .int .i64 0, .string (⟨#[]⟩ : ByteArray)]) ?_ 6 _ rfl; (with_reducible repeat (first | refine blk_drewN ?_ _ | refine blk_drew ?_ | refine blk_alloc ?_ _)); refine blk_put (cs := #[.int .i64 t367, .int .i64 t368, .int .i64 t369, .bool t370, .int .i64 t371, .string (⟨#[]⟩ : ByteArray), .bool false, .int .i64 0, .string (⟨#[]⟩ : ByteArray)]) ?_ 5 _ rfl; (with_reducible repeat (first | refine blk_drewN ?_ _ | refine blk_drew ?_ | refine blk_alloc ?_ _)); refine blk_put (cs := #[.int .i64 t367, .int .i64 t368, .int .i64 t369, .bool t370, .int .i64 0, .string (⟨#[]⟩ : ByteArray), .bool false, .int .i64 0, .string (⟨#[]⟩ : ByteArray)]) ?_ 4 _ rfl; (with_reducible repeat (first | refine blk_drewN ?_ _ | refine blk_drew ?_ | refine blk_alloc ?_ _)); refine blk_put (cs := #[.int .i64 t367, .int .i64 t368, .int .i64 t369, .bool false, .int .i64 0, .string (⟨#[]⟩ : ByteArray), .bool false, .int .i64 0, .string (⟨#[]⟩ : ByteArray)]) ?_ 3 _ rfl; (with_reducible repeat (first | refine blk_drewN ?_ _ | refine blk_drew ?_ | refine blk_alloc ?_ _)); refine blk_put (cs := #[.int .i64 t367, .int .i64 t368, .int .i64 0, .bool false, .int .i64 0, .string (⟨#[]⟩ : ByteArray), .bool false, .int .i64 0, .string (⟨#[]⟩ : ByteArray)]) ?_ 2 _ rfl; (with_reducible repeat (first | refine blk_drewN ?_ _ | refine blk_drew ?_ | refine blk_alloc ?_ _)); refine blk_put (cs := #[.int .i64 t367, .int .i64 0, .int .i64 0, .bool false, .int .i64 0, .string (⟨#[]⟩ : ByteArray), .bool false, .int .i64 0, .string (⟨#[]⟩ : ByteArray)]) ?_ 1 _ rfl; (with_reducible repeat (first | refine blk_drewN ?_ _ | refine blk_drew ?_ | refine blk_alloc ?_ _)); refine blk_put (cs := #[.int .i64 0, .int .i64 0, .int .i64 0, .bool false, .int .i64 0, .string (⟨#[]⟩ : ByteArray), .bool false, .int .i64 0, .string (⟨#[]⟩ : ByteArray)]) ?_ 0 _ rfl; (with_reducible repeat (first | refine blk_drewN ?_ _ | refine blk_drew ?_ | refine blk_alloc ?_ _)); exact BK377.out⟩, ⟨by repeat (first | (with_reducible first | exact HB.out | apply below_alloc | apply pw_below_drewN | apply below_drew1 | refine below_set ?_ GE362.out | refine below_set ?_ GE377.out) | exact HB.out)⟩⟩
            · rw [if_neg c23] at H
              have c23b0 : (!(t352 == t367) || (!(t353 == t368) || (!(t354 == t369) || ((!(t355 == t370) || (!(t356 == t371) || (!(t357.toList == t372.toList)))) || ((!(t358 == t373) || (!(t359 == t374) || (!(t360.toList == t375.toList))))))))) = false := by simpa using c23
              clear c23
              (first | rw [c23b0] | (simp only [i64_w, i32_w]; rw [c23b0]) | skip)
              have H' := Aside0.mk H
              clear H
              have hnb27 := NB362_377.out
              have hnc27 := NB377_362.out
              have hcz28_0 : w20.cell? ⟨gb362, 0, none⟩ = some (.int .i64 t352) := (blk_cell BK362.out 0).trans rfl
              have hcz28_1 : w20.cell? ⟨gb362, 1, none⟩ = some (.int .i64 t353) := (blk_cell BK362.out 1).trans rfl
              have hcz28_2 : w20.cell? ⟨gb362, 2, none⟩ = some (.int .i64 t354) := (blk_cell BK362.out 2).trans rfl
              have hcz28_3 : w20.cell? ⟨gb362, 3, none⟩ = some (.bool t355) := (blk_cell BK362.out 3).trans rfl
              have hcz28_4 : w20.cell? ⟨gb362, 4, none⟩ = some (.int .i64 t356) := (blk_cell BK362.out 4).trans rfl
              have hcz28_5 : w20.cell? ⟨gb362, 5, none⟩ = some (.string t357) := (blk_cell BK362.out 5).trans rfl
              have hcz28_6 : w20.cell? ⟨gb362, 6, none⟩ = some (.bool t358) := (blk_cell BK362.out 6).trans rfl
              have hcz28_7 : w20.cell? ⟨gb362, 7, none⟩ = some (.int .i64 t359) := (blk_cell BK362.out 7).trans rfl
              have hcz28_8 : w20.cell? ⟨gb362, 8, none⟩ = some (.string t360) := (blk_cell BK362.out 8).trans rfl
              have hfz28_0 := blk_frozen BK362.out 0
              have hfz28_1 := blk_frozen BK362.out 1
              have hfz28_2 := blk_frozen BK362.out 2
              have hfz28_3 := blk_frozen BK362.out 3
              have hfz28_4 := blk_frozen BK362.out 4
              have hfz28_5 := blk_frozen BK362.out 5
              have hfz28_6 := blk_frozen BK362.out 6
              have hfz28_7 := blk_frozen BK362.out 7
              have hfz28_8 := blk_frozen BK362.out 8
              have hcz29_0 : w20.cell? ⟨gb377, 0, none⟩ = some (.int .i64 0) := (blk_cell BK377.out 0).trans rfl
              have hcz29_1 : w20.cell? ⟨gb377, 1, none⟩ = some (.int .i64 0) := (blk_cell BK377.out 1).trans rfl
              have hcz29_2 : w20.cell? ⟨gb377, 2, none⟩ = some (.int .i64 0) := (blk_cell BK377.out 2).trans rfl
              have hcz29_3 : w20.cell? ⟨gb377, 3, none⟩ = some (.bool false) := (blk_cell BK377.out 3).trans rfl
              have hcz29_4 : w20.cell? ⟨gb377, 4, none⟩ = some (.int .i64 0) := (blk_cell BK377.out 4).trans rfl
              have hcz29_5 : w20.cell? ⟨gb377, 5, none⟩ = some (.string (⟨#[]⟩ : ByteArray)) := (blk_cell BK377.out 5).trans rfl
              have hcz29_6 : w20.cell? ⟨gb377, 6, none⟩ = some (.bool false) := (blk_cell BK377.out 6).trans rfl
              have hcz29_7 : w20.cell? ⟨gb377, 7, none⟩ = some (.int .i64 0) := (blk_cell BK377.out 7).trans rfl
              have hcz29_8 : w20.cell? ⟨gb377, 8, none⟩ = some (.string (⟨#[]⟩ : ByteArray)) := (blk_cell BK377.out 8).trans rfl
              have hfz29_0 := blk_frozen BK377.out 0
              have hfz29_1 := blk_frozen BK377.out 1
              have hfz29_2 := blk_frozen BK377.out 2
              have hfz29_3 := blk_frozen BK377.out 3
              have hfz29_4 := blk_frozen BK377.out 4
              have hfz29_5 := blk_frozen BK377.out 5
              have hfz29_6 := blk_frozen BK377.out 6
              have hfz29_7 := blk_frozen BK377.out 7
              have hfz29_8 := blk_frozen BK377.out 8
              go_wp2
              go_meet
              case rel => exact ⟨_, ((t361 != t376)), (by first | rfl | (simp; done) | (simp [*]; done)), H', ⟨by have := HK1.out; first | omega | exact Nat.le_refl _⟩, ⟨by (with_reducible repeat (first | apply Kd.V_alloc | apply Kd.V_drewN | apply Kd.V_drew)); exact Kd.V_mono (Kd.V_far (p := ⟨gb377, 8, none⟩) (Kd.V_far (p := ⟨gb377, 7, none⟩) (Kd.V_far (p := ⟨gb377, 6, none⟩) (Kd.V_far (p := ⟨gb377, 5, none⟩) (Kd.V_far (p := ⟨gb377, 4, none⟩) (Kd.V_far (p := ⟨gb377, 3, none⟩) (Kd.V_far (p := ⟨gb377, 2, none⟩) (Kd.V_far (p := ⟨gb377, 1, none⟩) (Kd.V_far (p := ⟨gb377, 0, none⟩) (Kd.V_mono HO_0.out (fun k_ hk => (⟨hk, hk.2⟩ : _ ∧ k_ ≠ gb377))) (fun _ hk => hk.2) (.int .i64 t367)) (fun _ hk => hk.2) (.int .i64 t368)) (fun _ hk => hk.2) (.int .i64 t369)) (fun _ hk => hk.2) (.bool t370)) (fun _ hk => hk.2) (.int .i64 t371)) (fun _ hk => hk.2) (.string t372)) (fun _ hk => hk.2) (.bool t373)) (fun _ hk => hk.2) (.int .i64 t374)) (fun _ hk => hk.2) (.string t375)) (fun _ hk => ⟨hk.1.1.1, ⟨hk.1.1.2.2, hk.1.2⟩⟩)⟩, ⟨by (with_reducible repeat (first | refine blk_drewN ?_ _ | refine blk_drew ?_ | refine blk_alloc ?_ _)); refine blk_far ?_ NB362_377.out _; (with_reducible repeat (first | refine blk_drewN ?_ _ | refine blk_drew ?_ | refine blk_alloc ?_ _)); refine blk_far ?_ NB362_377.out _; (with_reducible repeat (first | refine blk_drewN ?_ _ | refine blk_drew ?_ | refine blk_alloc ?_ _)); refine blk_far ?_ NB362_377.out _; (with_reducible repeat (first | refine blk_drewN ?_ _ | refine blk_drew ?_ | refine blk_alloc ?_ _)); refine blk_far ?_ NB362_377.out _; (with_reducible repeat (first | refine blk_drewN ?_ _ | refine blk_drew ?_ | refine blk_alloc ?_ _)); refine blk_far ?_ NB362_377.out _; (with_reducible repeat (first | refine blk_drewN ?_ _ | refine blk_drew ?_ | refine blk_alloc ?_ _)); refine blk_far ?_ NB362_377.out _; (with_reducible repeat (first | refine blk_drewN ?_ _ | refine blk_drew ?_ | refine blk_alloc ?_ _)); refine blk_far ?_ NB362_377.out _; (with_reducible repeat (first | refine blk_drewN ?_ _ | refine blk_drew ?_ | refine blk_alloc ?_ _)); refine blk_far ?_ NB362_377.out _; (with_reducible repeat (first | refine blk_drewN ?_ _ | refine blk_drew ?_ | refine blk_alloc ?_ _)); refine blk_far ?_ NB362_377.out _; (with_reducible repeat (first | refine blk_drewN ?_ _ | refine blk_drew ?_ | refine blk_alloc ?_ _)); exact BK362.out⟩, ⟨by (with_reducible repeat (first | refine blk_drewN ?_ _ | refine blk_drew ?_ | refine blk_alloc ?_ _)); refine blk_put (cs := #[.int .i64 t367, .int .i64 t368, .int .i64 t369, .bool t370, .int .i64 t371, .string t372, .bool t373, .int .i64 t374, .string (⟨#[]⟩ : ByteArray)]) ?_ 8 _ rfl; (with_reducible repeat (first | refine blk_drewN ?_ _ | refine blk_drew ?_ | refine blk_alloc ?_ _)); refine blk_put (cs := #[.int .i64 t367, .int .i64 t368, .int .i64 t369, .bool t370, .int .i64 t371, .string t372, .bool t373, .int .i64 0, .string (⟨#[]⟩ : ByteArray)]) ?_ 7 _ rfl; (with_reducible repeat (first | refine blk_drewN ?_ _ | refine blk_drew ?_ | refine blk_alloc ?_ _)); refine blk_put (cs := #[.int .i64 t367, .int .i64 t368, .int .i64 t369, .bool t370, .int .i64 t371, .string t372, .bool false, .int .i64 0, .string (⟨#[]⟩ : ByteArray)]) ?_ 6 _ rfl; (with_reducible repeat (first | refine blk_drewN ?_ _ | refine blk_drew ?_ | refine blk_alloc ?_ _)); refine blk_put (cs := #[.int .i64 t367, .int .i64 t368, .int .i64 t369, .bool t370, .int .i64 t371, .string (⟨#[]⟩ : ByteArray), .bool false, .int .i64 0, .string (⟨#[]⟩ : ByteArray)]) ?_ 5 _ rfl; (with_reducible repeat (first | refine blk_drewN ?_ _ | refine blk_drew ?_ | refine blk_alloc ?_ _)); refine blk_put (cs := #[.int .i64 t367, .int .i64 t368, .int .i64 t369, .bool t370, .int .i64 0, .string (⟨#[]⟩ : ByteArray), .bool false, .int .i64 0, .string (⟨#[]⟩ : ByteArray)]) ?_ 4 _ rfl; (with_reducible repeat (first | refine blk_drewN ?_ _ | refine blk_drew ?_ | refine blk_alloc ?_ _)); refine blk_put (cs := #[.int .i64 t367, .int .i64 t368, .int .i64 t369, .bool false, .int .i64 0, .string (⟨#[]⟩ : ByteArray), .bool false, .int .i64 0, .string (⟨#[]⟩ : ByteArray)]) ?_ 3 _ rfl; (with_reducible repeat (first | refine blk_drewN ?_ _ | refine blk_drew ?_ | refine blk_alloc ?_ _)); refine blk_put (cs := #[.int .i64 t367, .int .i64 t368, .int .i64 0, .bool false, .int .i64 0, .string (⟨#[]⟩ : ByteArray), .bool false, .int .i64 0, .string (⟨#[]⟩ : ByteArray)]) ?_ 2 _ rfl; (with_reducible repeat (first | refine blk_drewN ?_ _ | refine blk_drew ?_ | refine blk_alloc ?_ _)); refine blk_put (cs := #[.int .i64 t367, .int .i64 0, .int .i64 0, .bool false, .int .i64 0, .string (⟨#[]⟩ : ByteArray), .bool false, .int .i64 0, .string (⟨#[]⟩ : ByteArray)]) ?_ 1 _ rfl; (with_reducible repeat (first | refine blk_drewN ?_ _ | refine blk_drew ?_ | refine blk_alloc ?_ _)); refine blk_put (cs := #[.int .i64 0, .int .i64 0, .int .i64 0, .bool false, .int .i64 0, .string (⟨#[]⟩ : ByteArray), .bool false, .int .i64 0, .string (⟨#[]⟩ : ByteArray)]) ?_ 0 _ rfl; (with_reducible repeat (first | refine blk_drewN ?_ _ | refine blk_drew ?_ | refine blk_alloc ?_ _)); exact BK377.out⟩, ⟨by repeat (first | (with_reducible first | exact HB.out | apply below_alloc | apply pw_below_drewN | apply below_drew1 | refine below_set ?_ GE362.out | refine below_set ?_ GE377.out) | exact HB.out)⟩⟩
          case rest =>
            clear HC17
            try clear c1
            try clear c2
            try clear p2
            try clear c3
            try clear p3
            try clear q3
            try clear hx3
            try clear c5
            try clear p6
            try clear c11
            try clear c11b0
            try clear c12
            try clear c12b0
            try clear c13
            try clear c13b0
            try clear c14
            try clear c21
            try clear c23
            try clear c23b0
            try clear c24
            try clear c27
            try clear c28
            try clear hcz10_0
            try clear hcz10_1
            try clear hcz10_2
            try clear hcz10_3
            try clear hcz10_4
            try clear hcz10_5
            try clear hcz10_6
            try clear hcz10_7
            try clear hcz10_8
            try clear hcz22_0
            try clear hcz22_1
            try clear hcz22_2
            try clear hcz22_3
            try clear hcz22_4
            try clear hcz22_5
            try clear hcz22_6
            try clear hcz22_7
            try clear hcz22_8
            try clear hcz25_0
            try clear hcz25_1
            try clear hcz25_2
            try clear hcz25_3
            try clear hcz25_4
            try clear hcz25_5
            try clear hcz25_6
            try clear hcz25_7
            try clear hcz25_8
            try clear hcz26_0
            try clear hcz26_1
            try clear hcz26_2
            try clear hcz26_3
            try clear hcz26_4
            try clear hcz26_5
            try clear hcz26_6
            try clear hcz26_7
            try clear hcz26_8
            try clear hcz28_0
            try clear hcz28_1
            try clear hcz28_2
            try clear hcz28_3
            try clear hcz28_4
            try clear hcz28_5
            try clear hcz28_6
            try clear hcz28_7
            try clear hcz28_8
            try clear hcz29_0
            try clear hcz29_1
            try clear hcz29_2
            try clear hcz29_3
            try clear hcz29_4
            try clear hcz29_5
            try clear hcz29_6
            try clear hcz29_7
            try clear hcz29_8
            try clear hfz10_0
            try clear hfz10_1
            try clear hfz10_2
            try clear hfz10_3
            try clear hfz10_4
            try clear hfz10_5
            try clear hfz10_6
            try clear hfz10_7
            try clear hfz10_8
            try clear hfz22_0
            try clear hfz22_1
            try clear hfz22_2
            try clear hfz22_3
            try clear hfz22_4
            try clear hfz22_5
            try clear hfz22_6
            try clear hfz22_7
            try clear hfz22_8
            try clear hfz25_0
            try clear hfz25_1
            try clear hfz25_2
            try clear hfz25_3
            try clear hfz25_4
            try clear hfz25_5
            try clear hfz25_6
            try clear hfz25_7
            try clear hfz25_8
            try clear hfz26_0
            try clear hfz26_1
            try clear hfz26_2
            try clear hfz26_3
            try clear hfz26_4
            try clear hfz26_5
            try clear hfz26_6
            try clear hfz26_7
            try clear hfz26_8
            try clear hfz28_0
            try clear hfz28_1
            try clear hfz28_2
            try clear hfz28_3
            try clear hfz28_4
            try clear hfz28_5
            try clear hfz28_6
            try clear hfz28_7
            try clear hfz28_8
            try clear hfz29_0
            try clear hfz29_1
            try clear hfz29_2
            try clear hfz29_3
            try clear hfz29_4
            try clear hfz29_5
            try clear hfz29_6
            try clear hfz29_7
            try clear hfz29_8
            try clear hx363_0
            try clear p2
            try clear p363
            try clear p6
            try clear q363
            obtain ⟨kq, x55_16, rfl, HA, HJ16, HO_0, BK362, BK377, HB⟩ := hcut
            cases kq with
            | zero => exact absurd HA.out (by simp [tithebarnlaw18_SumsOrder.j1])
            | succ kj16 =>
              have H := HA.out
              clear HA
              simp only [tithebarnlaw18_SumsOrder.j1] at H
              by_cases c30 : x55_16 = true
              · subst c30
                have H1 : (some false) = some r := by rw [if_pos rfl] at H; exact H
                clear H
                have H := H1
                clear H1
                obtain rfl := Option.some.inj H
                go_wp2
                go_ret
                exact ⟨by first | rfl | (simp [errW_none, errW_some] <;> rfl) | (simp [*, errW_none, errW_some] <;> rfl), by repeat (first | (with_reducible first | exact HB.out | apply below_alloc | apply pw_below_drewN | apply below_drew1 | refine below_set ?_ GE362.out | refine below_set ?_ GE377.out) | exact HB.out)⟩
              · replace c30 := Bool.eq_false_iff.mpr c30
                subst c30
                have H1 : ((sums_Project_c.f l0 l2).bind fun bt378 => (tithebarnlaw18_SumsOrder.l1 kj16 l0 l2 bt378.1 bt378.2 0)) = some r := by rw [if_neg (show ¬ (false = true) by decide)] at H; exact H
                clear H
                have H := H1
                clear H1
                replace H := Option.bind_eq_some_iff.mp H
                obtain ⟨⟨t378, t379⟩, A310, H⟩ := H
                replace H : (tithebarnlaw18_SumsOrder.l1 kj16 l0 l2 t378 t379 0) = some r := H
                have A31 := Aside0.mk A310
                clear A310
                have H' := Aside0.mk H
                clear H
                go_wp2_with (first | ((with_reducible refine gate_callee (f := 29) rfl ?_); refine goesL_ (some 59) rfl rfl Try.func29 (by kernel_rfl) rfl #[.slice A0 l0.length c0, .slice A2 l2.length c2] rfl (by (try simp only [List.map_toArray, List.map_cons, List.map_nil]); first | done | rfl | (simp only [List.length_drop, List.length_take]; rfl)) ?_; (with_reducible refine (sums_Project_c.calls _ _ l0 _ _ l2 t378 t379 _ ?side1 ?side2 ?side3 ?side4 A31.out).mono ?_); (case side1 => repeat (first | exact (Kd.V_reads' HO_0.out).2.2 | (with_reducible refine Kd.C_alloc ?_ _) | (with_reducible refine Kd.C_drewN ?_ _) | (with_reducible refine Kd.C_drew ?_))); (case side2 => exact (Kd.V_reads' HO_0.out).2.1); (case side3 => repeat (first | exact (Kd.C_below HR2.out HB.out) | (with_reducible refine Kd.C_alloc ?_ _) | (with_reducible refine Kd.C_drewN ?_ _) | (with_reducible refine Kd.C_drew ?_))); (case side4 => exact HC2.out); rintro e w32 ⟨v380, rfl, ho0, hb⟩; refine ⟨_, rfl, ?_⟩; have n0_ := Aside0.mk (Kd.V_elder' (by (with_reducible repeat (first | apply Kd.V_alloc | apply Kd.V_drewN | apply Kd.V_drew)); exact HO_0.out) (Kd.S_base ho0) hb); have n1_ := Aside0.mk (Kd.N_lower (Kd.N_mono (ok' := fun k_ => (P0_ k_ ∨ w.heap.size ≤ k_) ∧ k_ ≠ gb362 ∧ k_ ≠ gb377) (Kd.S_N (Kd.S_bound ho0)) (fun k_ hk_ => ⟨(.inr (Nat.le_trans (below_size (by repeat (first | (with_reducible first | exact HB.out | apply below_alloc | apply pw_below_drewN | apply below_drew1 | refine below_set ?_ GE362.out | refine below_set ?_ GE377.out) | exact HB.out))) hk_.2.1)), (Kd.freshB (g := gb362) (o := .cells #[.int .i64 t352, .int .i64 t353, .int .i64 t354, .bool t355, .int .i64 t356, .string t357, .bool t358, .int .i64 t359, .string t360] 52 (0, 0)) (by (with_reducible repeat (first | refine blk_drewN ?_ _ | refine blk_drew ?_ | refine blk_alloc ?_ _)); exact BK362.out) k_ hk_.2.1), (Kd.freshB (g := gb377) (o := .cells #[.int .i64 t367, .int .i64 t368, .int .i64 t369, .bool t370, .int .i64 t371, .string t372, .bool t373, .int .i64 t374, .string t375] 52 (0, 0)) (by (with_reducible repeat (first | refine blk_drewN ?_ _ | refine blk_drew ?_ | refine blk_alloc ?_ _)); exact BK377.out) k_ hk_.2.1)⟩)) (below_size (by repeat (first | (with_reducible first | exact HB.out | apply below_alloc | apply pw_below_drewN | apply below_drew1 | refine below_set ?_ GE362.out | refine below_set ?_ GE377.out) | exact HB.out)))); have n2_ := Aside0.mk (blk_below (g := gb362) (o := .cells #[.int .i64 t352, .int .i64 t353, .int .i64 t354, .bool t355, .int .i64 t356, .string t357, .bool t358, .int .i64 t359, .string t360] 52 (0, 0)) (by (with_reducible repeat (first | refine blk_drewN ?_ _ | refine blk_drew ?_ | refine blk_alloc ?_ _)); exact BK362.out) hb); have n3_ := Aside0.mk (blk_below (g := gb377) (o := .cells #[.int .i64 t367, .int .i64 t368, .int .i64 t369, .bool t370, .int .i64 t371, .string t372, .bool t373, .int .i64 t374, .string t375] 52 (0, 0)) (by (with_reducible repeat (first | refine blk_drewN ?_ _ | refine blk_drew ?_ | refine blk_alloc ?_ _)); exact BK377.out) hb); have n4_ := Aside0.mk (below_step (by repeat (first | (with_reducible first | exact HB.out | apply below_alloc | apply pw_below_drewN | apply below_drew1 | refine below_set ?_ GE362.out | refine below_set ?_ GE377.out) | exact HB.out)) hb); clear HO_0; clear BK362; clear BK377; clear HB; have HO_0 := n0_; have HO381 := n1_; have BK362 := n2_; have BK377 := n3_; have HB := n4_; clear n0_ n1_ n2_ n3_ n4_; (try clear hb); (try clear hb2); (try clear hk); (try clear hi); (try clear ho0)))
                go_loopg [15] kj16 (fun kq v15 w' => ∃ (x15_3 : Int), v15 = .int .i64 x15_3 ∧ Aside0 (tithebarnlaw18_SumsOrder.l1 kq l0 l2 t378 t379 x15_3 = some r) ∧ Aside0 (kq ≤ kj16) ∧ Aside0 (Kd.V (Kd.slice 23 k23) 34 w' w.heap.size (fun k_ => (P0_ k_ ∨ w.heap.size ≤ k_) ∧ some k_ ≠ (v380 : Value).ownBlock ∧ k_ ≠ gb362 ∧ k_ ≠ gb377) (.slice A0 l0.length c0) l0) ∧ Aside0 (Kd.N (Kd.slice 23 k23) 34 w' w.heap.size (fun k_ => (P0_ k_ ∨ w.heap.size ≤ k_) ∧ k_ ≠ gb362 ∧ k_ ≠ gb377) v380 t378) ∧ Aside0 (w'.heap[gb362]? = some (.cells #[.int .i64 t352, .int .i64 t353, .int .i64 t354, .bool t355, .int .i64 t356, .string t357, .bool t358, .int .i64 t359, .string t360] 52 (0, 0))) ∧ Aside0 (w'.heap[gb377]? = some (.cells #[.int .i64 t367, .int .i64 t368, .int .i64 t369, .bool t370, .int .i64 t371, .string t372, .bool t373, .int .i64 t374, .string t375] 52 (0, 0))) ∧ Aside0 (Below w.heap.size w w'))
                case atStart => exact ⟨(0), (by first | rfl | (simp; done) | (simp [*]; done)), H', ⟨Nat.le_refl _⟩, ⟨by (with_reducible repeat (first | apply Kd.V_alloc | apply Kd.V_drewN | apply Kd.V_drew)); exact Kd.V_mono HO_0.out (fun _ hk => ⟨hk.1.1, ⟨hk.2, ⟨hk.1.2.1, hk.1.2.2⟩⟩⟩)⟩, ⟨by (with_reducible repeat (first | apply Kd.N_alloc | apply Kd.N_drewN | apply Kd.N_drew)); exact HO381.out⟩, ⟨by (with_reducible repeat (first | refine blk_drewN ?_ _ | refine blk_drew ?_ | refine blk_alloc ?_ _)); exact BK362.out⟩, ⟨by (with_reducible repeat (first | refine blk_drewN ?_ _ | refine blk_drew ?_ | refine blk_alloc ?_ _)); exact BK377.out⟩, ⟨by repeat (first | (with_reducible first | exact HB.out | apply below_alloc | apply pw_below_drewN | apply below_drew1 | refine below_set ?_ GE362.out | refine below_set ?_ GE377.out) | exact HB.out)⟩⟩
                case round =>
                  clear H'
                  try clear c1
                  try clear c2
                  try clear p2
                  try clear c3
                  try clear p3
                  try clear q3
                  try clear hx3
                  try clear c5
                  try clear p6
                  try clear c11
                  try clear c11b0
                  try clear c12
                  try clear c12b0
                  try clear c13
                  try clear c13b0
                  try clear c14
                  try clear c21
                  try clear c23
                  try clear c23b0
                  try clear c24
                  try clear c27
                  try clear c28
                  try clear c29
                  try clear c30
                  try clear c32
                  try clear hcz10_0
                  try clear hcz10_1
                  try clear hcz10_2
                  try clear hcz10_3
                  try clear hcz10_4
                  try clear hcz10_5
                  try clear hcz10_6
                  try clear hcz10_7
                  try clear hcz10_8
                  try clear hcz22_0
                  try clear hcz22_1
                  try clear hcz22_2
                  try clear hcz22_3
                  try clear hcz22_4
                  try clear hcz22_5
                  try clear hcz22_6
                  try clear hcz22_7
                  try clear hcz22_8
                  try clear hcz25_0
                  try clear hcz25_1
                  try clear hcz25_2
                  try clear hcz25_3
                  try clear hcz25_4
                  try clear hcz25_5
                  try clear hcz25_6
                  try clear hcz25_7
                  try clear hcz25_8
                  try clear hcz26_0
                  try clear hcz26_1
                  try clear hcz26_2
                  try clear hcz26_3
                  try clear hcz26_4
                  try clear hcz26_5
                  try clear hcz26_6
                  try clear hcz26_7
                  try clear hcz26_8
                  try clear hcz28_0
                  try clear hcz28_1
                  try clear hcz28_2
                  try clear hcz28_3
                  try clear hcz28_4
                  try clear hcz28_5
                  try clear hcz28_6
                  try clear hcz28_7
                  try clear hcz28_8
                  try clear hcz29_0
                  try clear hcz29_1
                  try clear hcz29_2
                  try clear hcz29_3
                  try clear hcz29_4
                  try clear hcz29_5
                  try clear hcz29_6
                  try clear hcz29_7
                  try clear hcz29_8
                  try clear hfz10_0
                  try clear hfz10_1
                  try clear hfz10_2
                  try clear hfz10_3
                  try clear hfz10_4
                  try clear hfz10_5
                  try clear hfz10_6
                  try clear hfz10_7
                  try clear hfz10_8
                  try clear hfz22_0
                  try clear hfz22_1
                  try clear hfz22_2
                  try clear hfz22_3
                  try clear hfz22_4
                  try clear hfz22_5
                  try clear hfz22_6
                  try clear hfz22_7
                  try clear hfz22_8
                  try clear hfz25_0
                  try clear hfz25_1
                  try clear hfz25_2
                  try clear hfz25_3
                  try clear hfz25_4
                  try clear hfz25_5
                  try clear hfz25_6
                  try clear hfz25_7
                  try clear hfz25_8
                  try clear hfz26_0
                  try clear hfz26_1
                  try clear hfz26_2
                  try clear hfz26_3
                  try clear hfz26_4
                  try clear hfz26_5
                  try clear hfz26_6
                  try clear hfz26_7
                  try clear hfz26_8
                  try clear hfz28_0
                  try clear hfz28_1
                  try clear hfz28_2
                  try clear hfz28_3
                  try clear hfz28_4
                  try clear hfz28_5
                  try clear hfz28_6
                  try clear hfz28_7
                  try clear hfz28_8
                  try clear hfz29_0
                  try clear hfz29_1
                  try clear hfz29_2
                  try clear hfz29_3
                  try clear hfz29_4
                  try clear hfz29_5
                  try clear hfz29_6
                  try clear hfz29_7
                  try clear hfz29_8
                  try clear hx363_0
                  try clear p2
                  try clear p3
                  try clear p363
                  try clear p6
                  try clear q3
                  try clear q363
                  obtain ⟨x15_3, rfl, HA, HK3, HO_0, HO_13, BK362, BK377, HB⟩ := hrel
                  cases gk with
                  | zero => exact absurd HA.out (by simp [tithebarnlaw18_SumsOrder.l1])
                  | succ k3 =>
                    have H := HA.out
                    clear HA
                    simp only [tithebarnlaw18_SumsOrder.l1] at H
                    have HC33 := Aside0.mk H
                    clear H
                    go_upto_region 14 with (fail)
                    go_cut [74] (fun v74 wc => ∃ (kq : Nat) (x74_32 : Bool), v74 = .bool x74_32 ∧ Aside0 (tithebarnlaw18_SumsOrder.j3 kq l0 l2 t378 t379 x15_3 x74_32 = some r) ∧ Aside0 (kq ≤ k3) ∧ Aside0 (Kd.V (Kd.slice 23 k23) 34 wc w.heap.size (fun k_ => (P0_ k_ ∨ w.heap.size ≤ k_) ∧ some k_ ≠ (v380 : Value).ownBlock ∧ k_ ≠ gb362 ∧ k_ ≠ gb377) (.slice A0 l0.length c0) l0) ∧ Aside0 (Kd.N (Kd.slice 23 k23) 34 wc w.heap.size (fun k_ => (P0_ k_ ∨ w.heap.size ≤ k_) ∧ k_ ≠ gb362 ∧ k_ ≠ gb377) v380 t378) ∧ Aside0 (wc.heap[gb362]? = some (.cells #[.int .i64 t352, .int .i64 t353, .int .i64 t354, .bool t355, .int .i64 t356, .string t357, .bool t358, .int .i64 t359, .string t360] 52 (0, 0))) ∧ Aside0 (wc.heap[gb377]? = some (.cells #[.int .i64 t367, .int .i64 t368, .int .i64 t369, .bool t370, .int .i64 t371, .string t372, .bool t373, .int .i64 t374, .string t375] 52 (0, 0))) ∧ Aside0 (Below w.heap.size w wc))
                    case first =>
                      have H := HC33.out
                      clear HC33
                      by_cases c34 : x15_3 < (l2.length : Int)
                      · rw [if_pos c34] at H
                        have c34b0 : decide (x15_3 < (l2.length : Int)) = true := decide_eq_true c34
                        clear c34
                        (first | rw [c34b0] | (simp only [i64_w, i32_w]; rw [c34b0]) | skip)
                        by_cases c35 : t379 = 0
                        · rw [if_pos c35] at H
                          have c35b0 : (t379 == 0) = true := beq_iff_eq.mpr c35
                          have c35b1 : (t379 != 0) = false := bne_eq_false_iff_eq.mpr c35
                          clear c35
                          have H' := Aside0.mk H
                          clear H
                          go_wp2
                          go_meet
                          case rel => exact ⟨_, (decide ((l0.length : Int) > 0)), (by first | rfl | (simp; done) | (simp [*]; done)), H', ⟨by have := HK1.out; have := HJ16.out; have := HK3.out; first | omega | exact Nat.le_refl _⟩, ⟨by (with_reducible repeat (first | apply Kd.V_alloc | apply Kd.V_drewN | apply Kd.V_drew)); exact HO_0.out⟩, ⟨by (with_reducible repeat (first | apply Kd.N_alloc | apply Kd.N_drewN | apply Kd.N_drew)); exact HO_13.out⟩, ⟨by (with_reducible repeat (first | refine blk_drewN ?_ _ | refine blk_drew ?_ | refine blk_alloc ?_ _)); exact BK362.out⟩, ⟨by (with_reducible repeat (first | refine blk_drewN ?_ _ | refine blk_drew ?_ | refine blk_alloc ?_ _)); exact BK377.out⟩, ⟨by repeat (first | (with_reducible first | exact HB.out | apply below_alloc | apply pw_below_drewN | apply below_drew1 | refine below_set ?_ GE362.out | refine below_set ?_ GE377.out) | exact HB.out)⟩⟩
                        · rw [if_neg c35] at H
                          have c35b0 : (t379 == 0) = false := beq_eq_false_iff_ne.mpr c35
                          have c35b1 : (t379 != 0) = true := bne_iff_ne.mpr c35
                          have H' := Aside0.mk H
                          clear H
                          go_wp2
                          go_meet
                          case rel => exact ⟨_, (false), (by first | rfl | (simp; done) | (simp [*]; done)), H', ⟨by have := HK1.out; have := HJ16.out; have := HK3.out; first | omega | exact Nat.le_refl _⟩, ⟨by (with_reducible repeat (first | apply Kd.V_alloc | apply Kd.V_drewN | apply Kd.V_drew)); exact HO_0.out⟩, ⟨by (with_reducible repeat (first | apply Kd.N_alloc | apply Kd.N_drewN | apply Kd.N_drew)); exact HO_13.out⟩, ⟨by (with_reducible repeat (first | refine blk_drewN ?_ _ | refine blk_drew ?_ | refine blk_alloc ?_ _)); exact BK362.out⟩, ⟨by (with_reducible repeat (first | refine blk_drewN ?_ _ | refine blk_drew ?_ | refine blk_alloc ?_ _)); exact BK377.out⟩, ⟨by repeat (first | (with_reducible first | exact HB.out | apply below_alloc | apply pw_below_drewN | apply below_drew1 | refine below_set ?_ GE362.out | refine below_set ?_ GE377.out) | exact HB.out)⟩⟩
                      · rw [if_neg c34] at H
                        have c34b0 : decide (x15_3 < (l2.length : Int)) = false := decide_eq_false c34
                        clear c34
                        (first | rw [c34b0] | (simp only [i64_w, i32_w]; rw [c34b0]) | skip)
                        have H' := Aside0.mk H
                        clear H
                        go_wp2
                        go_meet
                        case rel => exact ⟨_, (false), (by first | rfl | (simp; done) | (simp [*]; done)), H', ⟨by have := HK1.out; have := HJ16.out; have := HK3.out; first | omega | exact Nat.le_refl _⟩, ⟨by (with_reducible repeat (first | apply Kd.V_alloc | apply Kd.V_drewN | apply Kd.V_drew)); exact HO_0.out⟩, ⟨by (with_reducible repeat (first | apply Kd.N_alloc | apply Kd.N_drewN | apply Kd.N_drew)); exact HO_13.out⟩, ⟨by (with_reducible repeat (first | refine blk_drewN ?_ _ | refine blk_drew ?_ | refine blk_alloc ?_ _)); exact BK362.out⟩, ⟨by (with_reducible repeat (first | refine blk_drewN ?_ _ | refine blk_drew ?_ | refine blk_alloc ?_ _)); exact BK377.out⟩, ⟨by repeat (first | (with_reducible first | exact HB.out | apply below_alloc | apply pw_below_drewN | apply below_drew1 | refine below_set ?_ GE362.out | refine below_set ?_ GE377.out) | exact HB.out)⟩⟩
                    case rest =>
                      clear HC33
                      try clear c1
                      try clear c2
                      try clear p2
                      try clear c3
                      try clear p3
                      try clear q3
                      try clear hx3
                      try clear c5
                      try clear p6
                      try clear c11
                      try clear c11b0
                      try clear c12
                      try clear c12b0
                      try clear c13
                      try clear c13b0
                      try clear c14
                      try clear c21
                      try clear c23
                      try clear c23b0
                      try clear c24
                      try clear c27
                      try clear c28
                      try clear c29
                      try clear c30
                      try clear c32
                      try clear c34
                      try clear c34b0
                      try clear c35
                      try clear c35b0
                      try clear c35b1
                      try clear hcz10_0
                      try clear hcz10_1
                      try clear hcz10_2
                      try clear hcz10_3
                      try clear hcz10_4
                      try clear hcz10_5
                      try clear hcz10_6
                      try clear hcz10_7
                      try clear hcz10_8
                      try clear hcz22_0
                      try clear hcz22_1
                      try clear hcz22_2
                      try clear hcz22_3
                      try clear hcz22_4
                      try clear hcz22_5
                      try clear hcz22_6
                      try clear hcz22_7
                      try clear hcz22_8
                      try clear hcz25_0
                      try clear hcz25_1
                      try clear hcz25_2
                      try clear hcz25_3
                      try clear hcz25_4
                      try clear hcz25_5
                      try clear hcz25_6
                      try clear hcz25_7
                      try clear hcz25_8
                      try clear hcz26_0
                      try clear hcz26_1
                      try clear hcz26_2
                      try clear hcz26_3
                      try clear hcz26_4
                      try clear hcz26_5
                      try clear hcz26_6
                      try clear hcz26_7
                      try clear hcz26_8
                      try clear hcz28_0
                      try clear hcz28_1
                      try clear hcz28_2
                      try clear hcz28_3
                      try clear hcz28_4
                      try clear hcz28_5
                      try clear hcz28_6
                      try clear hcz28_7
                      try clear hcz28_8
                      try clear hcz29_0
                      try clear hcz29_1
                      try clear hcz29_2
                      try clear hcz29_3
                      try clear hcz29_4
                      try clear hcz29_5
                      try clear hcz29_6
                      try clear hcz29_7
                      try clear hcz29_8
                      try clear hfz10_0
                      try clear hfz10_1
                      try clear hfz10_2
                      try clear hfz10_3
                      try clear hfz10_4
                      try clear hfz10_5
                      try clear hfz10_6
                      try clear hfz10_7
                      try clear hfz10_8
                      try clear hfz22_0
                      try clear hfz22_1
                      try clear hfz22_2
                      try clear hfz22_3
                      try clear hfz22_4
                      try clear hfz22_5
                      try clear hfz22_6
                      try clear hfz22_7
                      try clear hfz22_8
                      try clear hfz25_0
                      try clear hfz25_1
                      try clear hfz25_2
                      try clear hfz25_3
                      try clear hfz25_4
                      try clear hfz25_5
                      try clear hfz25_6
                      try clear hfz25_7
                      try clear hfz25_8
                      try clear hfz26_0
                      try clear hfz26_1
                      try clear hfz26_2
                      try clear hfz26_3
                      try clear hfz26_4
                      try clear hfz26_5
                      try clear hfz26_6
                      try clear hfz26_7
                      try clear hfz26_8
                      try clear hfz28_0
                      try clear hfz28_1
                      try clear hfz28_2
                      try clear hfz28_3
                      try clear hfz28_4
                      try clear hfz28_5
                      try clear hfz28_6
                      try clear hfz28_7
                      try clear hfz28_8
                      try clear hfz29_0
                      try clear hfz29_1
                      try clear hfz29_2
                      try clear hfz29_3
                      try clear hfz29_4
                      try clear hfz29_5
                      try clear hfz29_6
                      try clear hfz29_7
                      try clear hfz29_8
                      try clear hx363_0
                      try clear p2
                      try clear p3
                      try clear p363
                      try clear p6
                      try clear q3
                      try clear q363
                      obtain ⟨kq, x74_32, rfl, HA, HJ32, HO_0, HO_13, BK362, BK377, HB⟩ := hcut
                      cases kq with
                      | zero => exact absurd HA.out (by simp [tithebarnlaw18_SumsOrder.j3])
                      | succ kj32 =>
                        have H := HA.out
                        clear HA
                        simp only [tithebarnlaw18_SumsOrder.j3] at H
                        by_cases c36 : x74_32 = true
                        · subst c36
                          have H1 : ((sums_Fold_c.f t378 x15_3).bind fun bt382 => (if 0 ≤ x15_3 then (if x15_3 < (l2.length : Int) then ((sums_Fold_c.f l0 (rd l2 x15_3)).bind fun bt394 => (if (!(bt382.1 == bt394.1) || (!(bt382.2.1 == bt394.2.1) || (!(bt382.2.2.1 == bt394.2.2.1) || ((!(bt382.2.2.2.1 == bt394.2.2.2.1) || (!(bt382.2.2.2.2.1 == bt394.2.2.2.2.1) || (!(bt382.2.2.2.2.2.1.toList == bt394.2.2.2.2.2.1.toList)))) || ((!(bt382.2.2.2.2.2.2.1 == bt394.2.2.2.2.2.2.1) || (!(bt382.2.2.2.2.2.2.2.1 == bt394.2.2.2.2.2.2.2.1) || (!(bt382.2.2.2.2.2.2.2.2.1.toList == bt394.2.2.2.2.2.2.2.2.1.toList))))))))) = true then (tithebarnlaw18_SumsOrder.j4 kj32 l0 l2 t378 t379 x15_3 true) else (if bt382.2.2.2.2.2.2.2.2.2 = 0 then (tithebarnlaw18_SumsOrder.j4 kj32 l0 l2 t378 t379 x15_3 (bt394.2.2.2.2.2.2.2.2.2 != 0)) else (tithebarnlaw18_SumsOrder.j4 kj32 l0 l2 t378 t379 x15_3 true)))) else (none)) else (none))) = some r := by rw [if_pos rfl] at H; exact H
                          clear H
                          have H := H1
                          clear H1
                          replace H := Option.bind_eq_some_iff.mp H
                          obtain ⟨⟨t382, t383, t384, t385, t386, t387, t388, t389, t390, t391⟩, A370, H⟩ := H
                          replace H : (if 0 ≤ x15_3 then (if x15_3 < (l2.length : Int) then ((sums_Fold_c.f l0 (rd l2 x15_3)).bind fun bt394 => (if (!(t382 == bt394.1) || (!(t383 == bt394.2.1) || (!(t384 == bt394.2.2.1) || ((!(t385 == bt394.2.2.2.1) || (!(t386 == bt394.2.2.2.2.1) || (!(t387.toList == bt394.2.2.2.2.2.1.toList)))) || ((!(t388 == bt394.2.2.2.2.2.2.1) || (!(t389 == bt394.2.2.2.2.2.2.2.1) || (!(t390.toList == bt394.2.2.2.2.2.2.2.2.1.toList))))))))) = true then (tithebarnlaw18_SumsOrder.j4 kj32 l0 l2 t378 t379 x15_3 true) else (if t391 = 0 then (tithebarnlaw18_SumsOrder.j4 kj32 l0 l2 t378 t379 x15_3 (bt394.2.2.2.2.2.2.2.2.2 != 0)) else (tithebarnlaw18_SumsOrder.j4 kj32 l0 l2 t378 t379 x15_3 true)))) else (none)) else (none)) = some r := H
                          have A37 := Aside0.mk A370
                          clear A370
                          by_cases c38 : 0 ≤ x15_3
                          · rw [if_pos c38] at H
                            have c38b0 : decide (0 ≤ x15_3) = true := decide_eq_true c38
                            clear c38
                            by_cases c39 : x15_3 < (l2.length : Int)
                            · rw [if_pos c39] at H
                              have c39b0 : decide (x15_3 < (l2.length : Int)) = true := decide_eq_true c39
                              clear c39
                              replace H := Option.bind_eq_some_iff.mp H
                              obtain ⟨⟨t394, t395, t396, t397, t398, t399, t400, t401, t402, t403⟩, A400, H⟩ := H
                              replace H : (if (!(t382 == t394) || (!(t383 == t395) || (!(t384 == t396) || ((!(t385 == t397) || (!(t386 == t398) || (!(t387.toList == t399.toList)))) || ((!(t388 == t400) || (!(t389 == t401) || (!(t390.toList == t402.toList))))))))) = true then (tithebarnlaw18_SumsOrder.j4 kj32 l0 l2 t378 t379 x15_3 true) else (if t391 = 0 then (tithebarnlaw18_SumsOrder.j4 kj32 l0 l2 t378 t379 x15_3 (t403 != 0)) else (tithebarnlaw18_SumsOrder.j4 kj32 l0 l2 t378 t379 x15_3 true))) = some r := H
                              have A40 := Aside0.mk A400
                              clear A400
                              have HC41 := Aside0.mk H
                              clear H
                              obtain ⟨Ao42, co42, eo42⟩ := Kd.N_slice HO_13.out
                              subst eo42
                              go_upto_region 18 with (first | ((with_reducible refine gate_callee (f := 32) rfl ?_); refine goesL_ (some 80) rfl rfl Try.func32 (by kernel_rfl) rfl #[.slice Ao42 t378.length co42, .int .i64 x15_3] rfl (by (try simp only [List.map_toArray, List.map_cons, List.map_nil]); first | done | rfl | (simp only [List.length_drop, List.length_take]; rfl)) ?_; (with_reducible refine (sums_Fold_c.calls _ _ t378 x15_3 t382 t383 t384 t385 t386 t387 t388 t389 t390 t391 _ ?side1 ?side2 A37.out).mono ?_); (case side1 => repeat (first | exact (Kd.N_reads' HO_13.out).2.2 | (with_reducible refine Kd.C_alloc ?_ _) | (with_reducible refine Kd.C_drewN ?_ _) | (with_reducible refine Kd.C_drew ?_))); (case side2 => exact (Kd.N_reads' HO_13.out).2.1); rintro e w43 ⟨rfl, hb⟩; refine ⟨_, rfl, ?_⟩; have n0_ := Aside0.mk (Kd.V_below (by (with_reducible repeat (first | apply Kd.V_alloc | apply Kd.V_drewN | apply Kd.V_drew)); exact HO_0.out) hb); have n1_ := Aside0.mk (Kd.N_below (by (with_reducible repeat (first | apply Kd.N_alloc | apply Kd.N_drewN | apply Kd.N_drew)); exact HO_13.out) hb); have n2_ := Aside0.mk (blk_below (g := gb362) (o := .cells #[.int .i64 t352, .int .i64 t353, .int .i64 t354, .bool t355, .int .i64 t356, .string t357, .bool t358, .int .i64 t359, .string t360] 52 (0, 0)) (by (with_reducible repeat (first | refine blk_drewN ?_ _ | refine blk_drew ?_ | refine blk_alloc ?_ _)); exact BK362.out) hb); have n3_ := Aside0.mk (blk_below (g := gb377) (o := .cells #[.int .i64 t367, .int .i64 t368, .int .i64 t369, .bool t370, .int .i64 t371, .string t372, .bool t373, .int .i64 t374, .string t375] 52 (0, 0)) (by (with_reducible repeat (first | refine blk_drewN ?_ _ | refine blk_drew ?_ | refine blk_alloc ?_ _)); exact BK377.out) hb); have n4_ := Aside0.mk (below_step (by repeat (first | (with_reducible first | exact HB.out | apply below_alloc | apply pw_below_drewN | apply below_drew1 | refine below_set ?_ GE362.out | refine below_set ?_ GE377.out) | exact HB.out)) hb); clear HO_0; clear HO_13; clear BK362; clear BK377; clear HB; have HO_0 := n0_; have HO_13 := n1_; have BK362 := n2_; have BK377 := n3_; have HB := n4_; clear n0_ n1_ n2_ n3_ n4_; (try clear hb); (try clear hb2); (try clear hk); (try clear hi)) | ((with_reducible refine gate_dst (N := 16) rfl ?_); (try (refine gate_guard (by rfl) ?_; dsimp only)); refine box_event ?hg (N := 16) ?hd (cs := #[.int .i64 0, .int .i64 0, .int .i64 0, .bool false, .int .i64 0, .string (⟨#[]⟩ : ByteArray), .bool false, .int .i64 0, .string (⟨#[]⟩ : ByteArray)]) (t := 52) ?hr ?_; (case hd => rfl); (case hg => rfl); (case hr => first | (go_simp; done) | (go_simp; rfl)); intro gb392 hg w44 hbox hb; have n0_ := Aside0.mk (Kd.V_below (Kd.V_elderB (by (with_reducible repeat (first | apply Kd.V_alloc | apply Kd.V_drewN | apply Kd.V_drew)); exact HO_0.out) gb392 (Nat.le_of_eq hg.symm)) hb); have n1_ := Aside0.mk (Kd.N_below (Kd.N_elderB (by (with_reducible repeat (first | apply Kd.N_alloc | apply Kd.N_drewN | apply Kd.N_drew)); exact HO_13.out) gb392 (Nat.le_of_eq hg.symm)) hb); have n2_ := Aside0.mk (blk_below (g := gb362) (o := .cells #[.int .i64 t352, .int .i64 t353, .int .i64 t354, .bool t355, .int .i64 t356, .string t357, .bool t358, .int .i64 t359, .string t360] 52 (0, 0)) (by (with_reducible repeat (first | refine blk_drewN ?_ _ | refine blk_drew ?_ | refine blk_alloc ?_ _)); exact BK362.out) hb); have n3_ := Aside0.mk (blk_below (g := gb377) (o := .cells #[.int .i64 t367, .int .i64 t368, .int .i64 t369, .bool t370, .int .i64 t371, .string t372, .bool t373, .int .i64 t374, .string t375] 52 (0, 0)) (by (with_reducible repeat (first | refine blk_drewN ?_ _ | refine blk_drew ?_ | refine blk_alloc ?_ _)); exact BK377.out) hb); have n4_ := Aside0.mk (below_step (by repeat (first | (with_reducible first | exact HB.out | apply below_alloc | apply pw_below_drewN | apply below_drew1 | refine below_set ?_ GE362.out | refine below_set ?_ GE377.out) | exact HB.out)) hb); have n5_ := Aside0.mk (hbox); have n6_ := Aside0.mk ((by rw [hg]; exact (below_size (by repeat (first | (with_reducible first | exact HB.out | apply below_alloc | apply pw_below_drewN | apply below_drew1 | refine below_set ?_ GE362.out | refine below_set ?_ GE377.out) | exact HB.out))) : w.heap.size ≤ gb392)); have n7_ := Aside0.mk ((by rw [hg]; exact (below_size (by repeat (first | (with_reducible first | exact HB.out | apply below_alloc | apply pw_below_drewN | apply below_drew1 | refine below_set ?_ GE362.out | refine below_set ?_ GE377.out) | exact HB.out))) : w.heap.size ≤ gb392)); have n8_ := Aside0.mk ((by rw [hg]; exact Nat.ne_of_lt (blk_lt (g := gb362) (o := .cells #[.int .i64 t352, .int .i64 t353, .int .i64 t354, .bool t355, .int .i64 t356, .string t357, .bool t358, .int .i64 t359, .string t360] 52 (0, 0)) (by (with_reducible repeat (first | refine blk_drewN ?_ _ | refine blk_drew ?_ | refine blk_alloc ?_ _)); exact BK362.out)) : gb362 ≠ gb392)); have n9_ := Aside0.mk ((by rw [hg]; exact Nat.ne_of_gt (blk_lt (g := gb362) (o := .cells #[.int .i64 t352, .int .i64 t353, .int .i64 t354, .bool t355, .int .i64 t356, .string t357, .bool t358, .int .i64 t359, .string t360] 52 (0, 0)) (by (with_reducible repeat (first | refine blk_drewN ?_ _ | refine blk_drew ?_ | refine blk_alloc ?_ _)); exact BK362.out)) : gb392 ≠ gb362)); have n10_ := Aside0.mk ((by rw [hg]; exact Nat.ne_of_lt (blk_lt (g := gb377) (o := .cells #[.int .i64 t367, .int .i64 t368, .int .i64 t369, .bool t370, .int .i64 t371, .string t372, .bool t373, .int .i64 t374, .string t375] 52 (0, 0)) (by (with_reducible repeat (first | refine blk_drewN ?_ _ | refine blk_drew ?_ | refine blk_alloc ?_ _)); exact BK377.out)) : gb377 ≠ gb392)); have n11_ := Aside0.mk ((by rw [hg]; exact Nat.ne_of_gt (blk_lt (g := gb377) (o := .cells #[.int .i64 t367, .int .i64 t368, .int .i64 t369, .bool t370, .int .i64 t371, .string t372, .bool t373, .int .i64 t374, .string t375] 52 (0, 0)) (by (with_reducible repeat (first | refine blk_drewN ?_ _ | refine blk_drew ?_ | refine blk_alloc ?_ _)); exact BK377.out)) : gb392 ≠ gb377)); clear HO_0; clear HO_13; clear BK362; clear BK377; clear HB; have HO_0 := n0_; have HO_13 := n1_; have BK362 := n2_; have BK377 := n3_; have HB := n4_; have BK392 := n5_; have GW392 := n6_; have GE392 := n7_; have NB362_392 := n8_; have NB392_362 := n9_; have NB377_392 := n10_; have NB392_377 := n11_; clear n0_ n1_ n2_ n3_ n4_ n5_ n6_ n7_ n8_ n9_ n10_ n11_; clear hb hbox hg; have hnb45 := NB392_362.out; have hnc45 := NB362_392.out; have hnb46 := NB392_377.out; have hnc46 := NB377_392.out; have hcz47_0 : w44.cell? ⟨gb392, 0, none⟩ = some (.int .i64 0) := (blk_cell BK392.out 0).trans rfl; have hcz47_1 : w44.cell? ⟨gb392, 1, none⟩ = some (.int .i64 0) := (blk_cell BK392.out 1).trans rfl; have hcz47_2 : w44.cell? ⟨gb392, 2, none⟩ = some (.int .i64 0) := (blk_cell BK392.out 2).trans rfl; have hcz47_3 : w44.cell? ⟨gb392, 3, none⟩ = some (.bool false) := (blk_cell BK392.out 3).trans rfl; have hcz47_4 : w44.cell? ⟨gb392, 4, none⟩ = some (.int .i64 0) := (blk_cell BK392.out 4).trans rfl; have hcz47_5 : w44.cell? ⟨gb392, 5, none⟩ = some (.string (⟨#[]⟩ : ByteArray)) := (blk_cell BK392.out 5).trans rfl; have hcz47_6 : w44.cell? ⟨gb392, 6, none⟩ = some (.bool false) := (blk_cell BK392.out 6).trans rfl; have hcz47_7 : w44.cell? ⟨gb392, 7, none⟩ = some (.int .i64 0) := (blk_cell BK392.out 7).trans rfl; have hcz47_8 : w44.cell? ⟨gb392, 8, none⟩ = some (.string (⟨#[]⟩ : ByteArray)) := (blk_cell BK392.out 8).trans rfl; have hfz47_0 := blk_frozen BK392.out 0; have hfz47_1 := blk_frozen BK392.out 1; have hfz47_2 := blk_frozen BK392.out 2; have hfz47_3 := blk_frozen BK392.out 3; have hfz47_4 := blk_frozen BK392.out 4; have hfz47_5 := blk_frozen BK392.out 5; have hfz47_6 := blk_frozen BK392.out 6; have hfz47_7 := blk_frozen BK392.out 7; have hfz47_8 := blk_frozen BK392.out 8; have p393 : 0 ≤ (x15_3 : Int) := of_decide_eq_true (by first | (with_reducible assumption) | assumption); have q393 : x15_3 < (l2.length : Int) := of_decide_eq_true (by first | (with_reducible assumption) | assumption); obtain ⟨ad393, e393, hx393_0⟩ := Kd.at_int HR2.out x15_3 p393 q393; cases e393; have hn393_0 : ad393.block ≠ gb392 := Nat.ne_of_lt (Nat.lt_of_lt_of_le (by have := World.block_lt_of_cell? _ _ hx393_0; first | rwa [add_block] at this | exact this) GW392.out); have hn393_1 : ad393.block ≠ gb392 := Nat.ne_of_lt (Nat.lt_of_lt_of_le (by have := World.block_lt_of_cell? _ _ hx393_0; first | rwa [add_block] at this | exact this) GW392.out); have hn393_2 : ad393.block ≠ gb392 := Nat.ne_of_lt (Nat.lt_of_lt_of_le (by have := World.block_lt_of_cell? _ _ hx393_0; first | rwa [add_block] at this | exact this) GW392.out); have hn393_3 : ad393.block ≠ gb392 := Nat.ne_of_lt (Nat.lt_of_lt_of_le (by have := World.block_lt_of_cell? _ _ hx393_0; first | rwa [add_block] at this | exact this) GW392.out); have hn393_4 : ad393.block ≠ gb392 := Nat.ne_of_lt (Nat.lt_of_lt_of_le (by have := World.block_lt_of_cell? _ _ hx393_0; first | rwa [add_block] at this | exact this) GW392.out); have hn393_5 : ad393.block ≠ gb392 := Nat.ne_of_lt (Nat.lt_of_lt_of_le (by have := World.block_lt_of_cell? _ _ hx393_0; first | rwa [add_block] at this | exact this) GW392.out); have hn393_6 : ad393.block ≠ gb392 := Nat.ne_of_lt (Nat.lt_of_lt_of_le (by have := World.block_lt_of_cell? _ _ hx393_0; first | rwa [add_block] at this | exact this) GW392.out); have hn393_7 : ad393.block ≠ gb392 := Nat.ne_of_lt (Nat.lt_of_lt_of_le (by have := World.block_lt_of_cell? _ _ hx393_0; first | rwa [add_block] at this | exact this) GW392.out); have hn393_8 : ad393.block ≠ gb392 := Nat.ne_of_lt (Nat.lt_of_lt_of_le (by have := World.block_lt_of_cell? _ _ hx393_0; first | rwa [add_block] at this | exact this) GW392.out); replace hx393_0 := (HB.out.cell (World.block_lt_of_cell? w _ hx393_0)).trans hx393_0; replace hx393_0 := (cell_far (p := ⟨gb392, 0, none⟩) (by first | (rw [add_block]; exact hn393_0) | (show (Addr.add _ _).block ≠ _; rw [add_block]; exact hn393_0) | exact hn393_0) (.int .i64 t382)).trans hx393_0; replace hx393_0 := (cell_far (p := ⟨gb392, 1, none⟩) (by first | (rw [add_block]; exact hn393_1) | (show (Addr.add _ _).block ≠ _; rw [add_block]; exact hn393_1) | exact hn393_1) (.int .i64 t383)).trans hx393_0; replace hx393_0 := (cell_far (p := ⟨gb392, 2, none⟩) (by first | (rw [add_block]; exact hn393_2) | (show (Addr.add _ _).block ≠ _; rw [add_block]; exact hn393_2) | exact hn393_2) (.int .i64 t384)).trans hx393_0; replace hx393_0 := (cell_far (p := ⟨gb392, 3, none⟩) (by first | (rw [add_block]; exact hn393_3) | (show (Addr.add _ _).block ≠ _; rw [add_block]; exact hn393_3) | exact hn393_3) (.bool t385)).trans hx393_0; replace hx393_0 := (cell_far (p := ⟨gb392, 4, none⟩) (by first | (rw [add_block]; exact hn393_4) | (show (Addr.add _ _).block ≠ _; rw [add_block]; exact hn393_4) | exact hn393_4) (.int .i64 t386)).trans hx393_0; replace hx393_0 := (cell_far (p := ⟨gb392, 5, none⟩) (by first | (rw [add_block]; exact hn393_5) | (show (Addr.add _ _).block ≠ _; rw [add_block]; exact hn393_5) | exact hn393_5) (.string t387)).trans hx393_0; replace hx393_0 := (cell_far (p := ⟨gb392, 6, none⟩) (by first | (rw [add_block]; exact hn393_6) | (show (Addr.add _ _).block ≠ _; rw [add_block]; exact hn393_6) | exact hn393_6) (.bool t388)).trans hx393_0; replace hx393_0 := (cell_far (p := ⟨gb392, 7, none⟩) (by first | (rw [add_block]; exact hn393_7) | (show (Addr.add _ _).block ≠ _; rw [add_block]; exact hn393_7) | exact hn393_7) (.int .i64 t389)).trans hx393_0; replace hx393_0 := (cell_far (p := ⟨gb392, 8, none⟩) (by first | (rw [add_block]; exact hn393_8) | (show (Addr.add _ _).block ≠ _; rw [add_block]; exact hn393_8) | exact hn393_8) (.string t390)).trans hx393_0; clear hn393_0; clear hn393_1; clear hn393_2; clear hn393_3; clear hn393_4; clear hn393_5; clear hn393_6; clear hn393_7; clear hn393_8; replace p393 := eq_true p393; replace q393 := eq_true q393) | ((with_reducible refine gate_callee (f := 32) rfl ?_); refine goesL_ (some 89) rfl rfl Try.func32 (by kernel_rfl) rfl #[.slice A0 l0.length c0, .int .i64 (rd l2 x15_3)] rfl (by (try simp only [List.map_toArray, List.map_cons, List.map_nil]); first | done | rfl | (simp only [List.length_drop, List.length_take]; rfl)) ?_; (with_reducible refine (sums_Fold_c.calls _ _ l0 (rd l2 x15_3) t394 t395 t396 t397 t398 t399 t400 t401 t402 t403 _ ?side1 ?side2 A40.out).mono ?_); (case side1 => refine (Kd.V_reads' (e := 34) (base := w.heap.size) (ok := fun k_ => (((P0_ k_ ∨ w.heap.size ≤ k_) ∧ (some k_ ≠ (.slice Ao42 t378.length co42 : Value).ownBlock ∧ (k_ ≠ gb362 ∧ k_ ≠ gb377))) ∧ k_ ≠ gb392)) (n := l0.length) (c := c0) ?_).2.2; exact (by (with_reducible repeat (first | apply Kd.V_alloc | apply Kd.V_drewN | apply Kd.V_drew)); exact (Kd.V_mono (Kd.V_far (p := ⟨gb392, 8, none⟩) (Kd.V_far (p := ⟨gb392, 7, none⟩) (Kd.V_far (p := ⟨gb392, 6, none⟩) (Kd.V_far (p := ⟨gb392, 5, none⟩) (Kd.V_far (p := ⟨gb392, 4, none⟩) (Kd.V_far (p := ⟨gb392, 3, none⟩) (Kd.V_far (p := ⟨gb392, 2, none⟩) (Kd.V_far (p := ⟨gb392, 1, none⟩) (Kd.V_far (p := ⟨gb392, 0, none⟩) (Kd.V_mono HO_0.out (fun k_ hk => (⟨hk, hk.2⟩ : _ ∧ k_ ≠ gb392))) (fun _ hk => hk.2) (.int .i64 t382)) (fun _ hk => hk.2) (.int .i64 t383)) (fun _ hk => hk.2) (.int .i64 t384)) (fun _ hk => hk.2) (.bool t385)) (fun _ hk => hk.2) (.int .i64 t386)) (fun _ hk => hk.2) (.string t387)) (fun _ hk => hk.2) (.bool t388)) (fun _ hk => hk.2) (.int .i64 t389)) (fun _ hk => hk.2) (.string t390)) (fun _ h_ => h_.1)))); (case side2 => exact (Kd.V_reads' HO_0.out).2.1); rintro e w48 ⟨rfl, hb⟩; refine ⟨_, rfl, ?_⟩; have n0_ := Aside0.mk (Kd.V_below (by (with_reducible repeat (first | apply Kd.V_alloc | apply Kd.V_drewN | apply Kd.V_drew)); exact (Kd.V_mono (Kd.V_far (p := ⟨gb392, 8, none⟩) (Kd.V_far (p := ⟨gb392, 7, none⟩) (Kd.V_far (p := ⟨gb392, 6, none⟩) (Kd.V_far (p := ⟨gb392, 5, none⟩) (Kd.V_far (p := ⟨gb392, 4, none⟩) (Kd.V_far (p := ⟨gb392, 3, none⟩) (Kd.V_far (p := ⟨gb392, 2, none⟩) (Kd.V_far (p := ⟨gb392, 1, none⟩) (Kd.V_far (p := ⟨gb392, 0, none⟩) (Kd.V_mono HO_0.out (fun k_ hk => (⟨hk, hk.2⟩ : _ ∧ k_ ≠ gb392))) (fun _ hk => hk.2) (.int .i64 t382)) (fun _ hk => hk.2) (.int .i64 t383)) (fun _ hk => hk.2) (.int .i64 t384)) (fun _ hk => hk.2) (.bool t385)) (fun _ hk => hk.2) (.int .i64 t386)) (fun _ hk => hk.2) (.string t387)) (fun _ hk => hk.2) (.bool t388)) (fun _ hk => hk.2) (.int .i64 t389)) (fun _ hk => hk.2) (.string t390)) (fun _ h_ => h_.1))) hb); have n1_ := Aside0.mk (Kd.N_below (by (with_reducible repeat (first | apply Kd.N_alloc | apply Kd.N_drewN | apply Kd.N_drew)); exact (Kd.N_mono (Kd.N_far (p := ⟨gb392, 8, none⟩) (Kd.N_far (p := ⟨gb392, 7, none⟩) (Kd.N_far (p := ⟨gb392, 6, none⟩) (Kd.N_far (p := ⟨gb392, 5, none⟩) (Kd.N_far (p := ⟨gb392, 4, none⟩) (Kd.N_far (p := ⟨gb392, 3, none⟩) (Kd.N_far (p := ⟨gb392, 2, none⟩) (Kd.N_far (p := ⟨gb392, 1, none⟩) (Kd.N_far (p := ⟨gb392, 0, none⟩) (Kd.N_mono HO_13.out (fun k_ hk => (⟨hk, hk.2⟩ : _ ∧ k_ ≠ gb392))) (fun _ hk => hk.2) (.int .i64 t382)) (fun _ hk => hk.2) (.int .i64 t383)) (fun _ hk => hk.2) (.int .i64 t384)) (fun _ hk => hk.2) (.bool t385)) (fun _ hk => hk.2) (.int .i64 t386)) (fun _ hk => hk.2) (.string t387)) (fun _ hk => hk.2) (.bool t388)) (fun _ hk => hk.2) (.int .i64 t389)) (fun _ hk => hk.2) (.string t390)) (fun _ h_ => h_.1))) hb); have n2_ := Aside0.mk (blk_below (g := gb362) (o := .cells #[.int .i64 t352, .int .i64 t353, .int .i64 t354, .bool t355, .int .i64 t356, .string t357, .bool t358, .int .i64 t359, .string t360] 52 (0, 0)) (by (with_reducible repeat (first | refine blk_drewN ?_ _ | refine blk_drew ?_ | refine blk_alloc ?_ _)); refine blk_far ?_ NB362_392.out _; (with_reducible repeat (first | refine blk_drewN ?_ _ | refine blk_drew ?_ | refine blk_alloc ?_ _)); refine blk_far ?_ NB362_392.out _; (with_reducible repeat (first | refine blk_drewN ?_ _ | refine blk_drew ?_ | refine blk_alloc ?_ _)); refine blk_far ?_ NB362_392.out _; (with_reducible repeat (first | refine blk_drewN ?_ _ | refine blk_drew ?_ | refine blk_alloc ?_ _)); refine blk_far ?_ NB362_392.out _; (with_reducible repeat (first | refine blk_drewN ?_ _ | refine blk_drew ?_ | refine blk_alloc ?_ _)); refine blk_far ?_ NB362_392.out _; (with_reducible repeat (first | refine blk_drewN ?_ _ | refine blk_drew ?_ | refine blk_alloc ?_ _)); refine blk_far ?_ NB362_392.out _; (with_reducible repeat (first | refine blk_drewN ?_ _ | refine blk_drew ?_ | refine blk_alloc ?_ _)); refine blk_far ?_ NB362_392.out _; (with_reducible repeat (first | refine blk_drewN ?_ _ | refine blk_drew ?_ | refine blk_alloc ?_ _)); refine blk_far ?_ NB362_392.out _; (with_reducible repeat (first | refine blk_drewN ?_ _ | refine blk_drew ?_ | refine blk_alloc ?_ _)); refine blk_far ?_ NB362_392.out _; (with_reducible repeat (first | refine blk_drewN ?_ _ | refine blk_drew ?_ | refine blk_alloc ?_ _)); exact BK362.out) hb); have n3_ := Aside0.mk (blk_below (g := gb377) (o := .cells #[.int .i64 t367, .int .i64 t368, .int .i64 t369, .bool t370, .int .i64 t371, .string t372, .bool t373, .int .i64 t374, .string t375] 52 (0, 0)) (by (with_reducible repeat (first | refine blk_drewN ?_ _ | refine blk_drew ?_ | refine blk_alloc ?_ _)); refine blk_far ?_ NB377_392.out _; (with_reducible repeat (first | refine blk_drewN ?_ _ | refine blk_drew ?_ | refine blk_alloc ?_ _)); refine blk_far ?_ NB377_392.out _; (with_reducible repeat (first | refine blk_drewN ?_ _ | refine blk_drew ?_ | refine blk_alloc ?_ _)); refine blk_far ?_ NB377_392.out _; (with_reducible repeat (first | refine blk_drewN ?_ _ | refine blk_drew ?_ | refine blk_alloc ?_ _)); refine blk_far ?_ NB377_392.out _; (with_reducible repeat (first | refine blk_drewN ?_ _ | refine blk_drew ?_ | refine blk_alloc ?_ _)); refine blk_far ?_ NB377_392.out _; (with_reducible repeat (first | refine blk_drewN ?_ _ | refine blk_drew ?_ | refine blk_alloc ?_ _)); refine blk_far ?_ NB377_392.out _; (with_reducible repeat (first | refine blk_drewN ?_ _ | refine blk_drew ?_ | refine blk_alloc ?_ _)); refine blk_far ?_ NB377_392.out _; (with_reducible repeat (first | refine blk_drewN ?_ _ | refine blk_drew ?_ | refine blk_alloc ?_ _)); refine blk_far ?_ NB377_392.out _; (with_reducible repeat (first | refine blk_drewN ?_ _ | refine blk_drew ?_ | refine blk_alloc ?_ _)); refine blk_far ?_ NB377_392.out _; (with_reducible repeat (first | refine blk_drewN ?_ _ | refine blk_drew ?_ | refine blk_alloc ?_ _)); exact BK377.out) hb); have n4_ := Aside0.mk (blk_below (g := gb392) (o := .cells #[.int .i64 t382, .int .i64 t383, .int .i64 t384, .bool t385, .int .i64 t386, .string t387, .bool t388, .int .i64 t389, .string t390] 52 (0, 0)) (by (with_reducible repeat (first | refine blk_drewN ?_ _ | refine blk_drew ?_ | refine blk_alloc ?_ _)); refine blk_put (cs := #[.int .i64 t382, .int .i64 t383, .int .i64 t384, .bool t385, .int .i64 t386, .string t387, .bool t388, .int .i64 t389, .string (⟨#[]⟩ : ByteArray)]) ?_ 8 _ rfl; (with_reducible repeat (first | refine blk_drewN ?_ _ | refine blk_drew ?_ | refine blk_alloc ?_ _)); refine blk_put (cs := #[.int .i64 t382, .int .i64 t383, .int .i64 t384, .bool t385, .int .i64 t386, .string t387, .bool t388, .int .i64 0, .string (⟨#[]⟩ : ByteArray)]) ?_ 7 _ rfl; (with_reducible repeat (first | refine blk_drewN ?_ _ | refine blk_drew ?_ | refine blk_alloc ?_ _)); refine blk_put (cs := #[.int .i64 t382, .int .i64 t383, .int .i64 t384, .bool t385, .int .i64 t386, .string t387, .bool false, .int .i64 0, .string (⟨#[]⟩ : ByteArray)]) ?_ 6 _ rfl; (with_reducible repeat (first | refine blk_drewN ?_ _ | refine blk_drew ?_ | refine blk_alloc ?_ _)); refine blk_put (cs := #[.int .i64 t382, .int .i64 t383, .int .i64 t384, .bool t385, .int .i64 t386, .string (⟨#[]⟩ : ByteArray), .bool false, .int .i64 0, .string (⟨#[]⟩ : ByteArray)]) ?_ 5 _ rfl; (with_reducible repeat (first | refine blk_drewN ?_ _ | refine blk_drew ?_ | refine blk_alloc ?_ _)); refine blk_put (cs := #[.int .i64 t382, .int .i64 t383, .int .i64 t384, .bool t385, .int .i64 0, .string (⟨#[]⟩ : ByteArray), .bool false, .int .i64 0, .string (⟨#[]⟩ : ByteArray)]) ?_ 4 _ rfl; (with_reducible repeat (first | refine blk_drewN ?_ _ | refine blk_drew ?_ | refine blk_alloc ?_ _)); refine blk_put (cs := #[.int .i64 t382, .int .i64 t383, .int .i64 t384, .bool false, .int .i64 0, .string (⟨#[]⟩ : ByteArray), .bool false, .int .i64 0, .string (⟨#[]⟩ : ByteArray)]) ?_ 3 _ rfl; (with_reducible repeat (first | refine blk_drewN ?_ _ | refine blk_drew ?_ | refine blk_alloc ?_ _)); refine blk_put (cs := #[.int .i64 t382, .int .i64 t383, .int .i64 0, .bool false, .int .i64 0, .string (⟨#[]⟩ : ByteArray), .bool false, .int .i64 0, .string (⟨#[]⟩ : ByteArray)]) ?_ 2 _ rfl; (with_reducible repeat (first | refine blk_drewN ?_ _ | refine blk_drew ?_ | refine blk_alloc ?_ _)); refine blk_put (cs := #[.int .i64 t382, .int .i64 0, .int .i64 0, .bool false, .int .i64 0, .string (⟨#[]⟩ : ByteArray), .bool false, .int .i64 0, .string (⟨#[]⟩ : ByteArray)]) ?_ 1 _ rfl; (with_reducible repeat (first | refine blk_drewN ?_ _ | refine blk_drew ?_ | refine blk_alloc ?_ _)); refine blk_put (cs := #[.int .i64 0, .int .i64 0, .int .i64 0, .bool false, .int .i64 0, .string (⟨#[]⟩ : ByteArray), .bool false, .int .i64 0, .string (⟨#[]⟩ : ByteArray)]) ?_ 0 _ rfl; (with_reducible repeat (first | refine blk_drewN ?_ _ | refine blk_drew ?_ | refine blk_alloc ?_ _)); exact BK392.out) hb); have n5_ := Aside0.mk (below_step (by repeat (first | (with_reducible first | exact HB.out | apply below_alloc | apply pw_below_drewN | apply below_drew1 | refine below_set ?_ GE362.out | refine below_set ?_ GE377.out | refine below_set ?_ GE392.out) | exact HB.out)) hb); clear HO_0; clear HO_13; clear BK362; clear BK377; clear BK392; clear HB; have HO_0 := n0_; have HO_13 := n1_; have BK362 := n2_; have BK377 := n3_; have BK392 := n4_; have HB := n5_; clear n0_ n1_ n2_ n3_ n4_ n5_; (try clear hb); (try clear hb2); (try clear hk); (try clear hi)) | ((with_reducible refine gate_dst (N := 18) rfl ?_); (try (refine gate_guard (by rfl) ?_; dsimp only)); refine box_event ?hg (N := 18) ?hd (cs := #[.int .i64 0, .int .i64 0, .int .i64 0, .bool false, .int .i64 0, .string (⟨#[]⟩ : ByteArray), .bool false, .int .i64 0, .string (⟨#[]⟩ : ByteArray)]) (t := 52) ?hr ?_; (case hd => rfl); (case hg => rfl); (case hr => first | (go_simp; done) | (go_simp; rfl)); intro gb404 hg w49 hbox hb; have n0_ := Aside0.mk (Kd.V_below (Kd.V_elderB (by (with_reducible repeat (first | apply Kd.V_alloc | apply Kd.V_drewN | apply Kd.V_drew)); exact HO_0.out) gb404 (Nat.le_of_eq hg.symm)) hb); have n1_ := Aside0.mk (Kd.N_below (Kd.N_elderB (by (with_reducible repeat (first | apply Kd.N_alloc | apply Kd.N_drewN | apply Kd.N_drew)); exact HO_13.out) gb404 (Nat.le_of_eq hg.symm)) hb); have n2_ := Aside0.mk (blk_below (g := gb362) (o := .cells #[.int .i64 t352, .int .i64 t353, .int .i64 t354, .bool t355, .int .i64 t356, .string t357, .bool t358, .int .i64 t359, .string t360] 52 (0, 0)) (by (with_reducible repeat (first | refine blk_drewN ?_ _ | refine blk_drew ?_ | refine blk_alloc ?_ _)); exact BK362.out) hb); have n3_ := Aside0.mk (blk_below (g := gb377) (o := .cells #[.int .i64 t367, .int .i64 t368, .int .i64 t369, .bool t370, .int .i64 t371, .string t372, .bool t373, .int .i64 t374, .string t375] 52 (0, 0)) (by (with_reducible repeat (first | refine blk_drewN ?_ _ | refine blk_drew ?_ | refine blk_alloc ?_ _)); exact BK377.out) hb); have n4_ := Aside0.mk (blk_below (g := gb392) (o := .cells #[.int .i64 t382, .int .i64 t383, .int .i64 t384, .bool t385, .int .i64 t386, .string t387, .bool t388, .int .i64 t389, .string t390] 52 (0, 0)) (by (with_reducible repeat (first | refine blk_drewN ?_ _ | refine blk_drew ?_ | refine blk_alloc ?_ _)); exact BK392.out) hb); have n5_ := Aside0.mk (below_step (by repeat (first | (with_reducible first | exact HB.out | apply below_alloc | apply pw_below_drewN | apply below_drew1 | refine below_set ?_ GE362.out | refine below_set ?_ GE377.out | refine below_set ?_ GE392.out) | exact HB.out)) hb); have n6_ := Aside0.mk (hbox); have n7_ := Aside0.mk ((by rw [hg]; exact (below_size (by repeat (first | (with_reducible first | exact HB.out | apply below_alloc | apply pw_below_drewN | apply below_drew1 | refine below_set ?_ GE362.out | refine below_set ?_ GE377.out | refine below_set ?_ GE392.out) | exact HB.out))) : w.heap.size ≤ gb404)); have n8_ := Aside0.mk ((by rw [hg]; exact (below_size (by repeat (first | (with_reducible first | exact HB.out | apply below_alloc | apply pw_below_drewN | apply below_drew1 | refine below_set ?_ GE362.out | refine below_set ?_ GE377.out | refine below_set ?_ GE392.out) | exact HB.out))) : w.heap.size ≤ gb404)); have n9_ := Aside0.mk ((by rw [hg]; exact Nat.ne_of_lt (blk_lt (g := gb362) (o := .cells #[.int .i64 t352, .int .i64 t353, .int .i64 t354, .bool t355, .int .i64 t356, .string t357, .bool t358, .int .i64 t359, .string t360] 52 (0, 0)) (by (with_reducible repeat (first | refine blk_drewN ?_ _ | refine blk_drew ?_ | refine blk_alloc ?_ _)); exact BK362.out)) : gb362 ≠ gb404)); have n10_ := Aside0.mk ((by rw [hg]; exact Nat.ne_of_gt (blk_lt (g := gb362) (o := .cells #[.int .i64 t352, .int .i64 t353, .int .i64 t354, .bool t355, .int .i64 t356, .string t357, .bool t358, .int .i64 t359, .string t360] 52 (0, 0)) (by (with_reducible repeat (first | refine blk_drewN ?_ _ | refine blk_drew ?_ | refine blk_alloc ?_ _)); exact BK362.out)) : gb404 ≠ gb362)); have n11_ := Aside0.mk ((by rw [hg]; exact Nat.ne_of_lt (blk_lt (g := gb377) (o := .cells #[.int .i64 t367, .int .i64 t368, .int .i64 t369, .bool t370, .int .i64 t371, .string t372, .bool t373, .int .i64 t374, .string t375] 52 (0, 0)) (by (with_reducible repeat (first | refine blk_drewN ?_ _ | refine blk_drew ?_ | refine blk_alloc ?_ _)); exact BK377.out)) : gb377 ≠ gb404)); have n12_ := Aside0.mk ((by rw [hg]; exact Nat.ne_of_gt (blk_lt (g := gb377) (o := .cells #[.int .i64 t367, .int .i64 t368, .int .i64 t369, .bool t370, .int .i64 t371, .string t372, .bool t373, .int .i64 t374, .string t375] 52 (0, 0)) (by (with_reducible repeat (first | refine blk_drewN ?_ _ | refine blk_drew ?_ | refine blk_alloc ?_ _)); exact BK377.out)) : gb404 ≠ gb377)); have n13_ := Aside0.mk ((by rw [hg]; exact Nat.ne_of_lt (blk_lt (g := gb392) (o := .cells #[.int .i64 t382, .int .i64 t383, .int .i64 t384, .bool t385, .int .i64 t386, .string t387, .bool t388, .int .i64 t389, .string t390] 52 (0, 0)) (by (with_reducible repeat (first | refine blk_drewN ?_ _ | refine blk_drew ?_ | refine blk_alloc ?_ _)); exact BK392.out)) : gb392 ≠ gb404)); have n14_ := Aside0.mk ((by rw [hg]; exact Nat.ne_of_gt (blk_lt (g := gb392) (o := .cells #[.int .i64 t382, .int .i64 t383, .int .i64 t384, .bool t385, .int .i64 t386, .string t387, .bool t388, .int .i64 t389, .string t390] 52 (0, 0)) (by (with_reducible repeat (first | refine blk_drewN ?_ _ | refine blk_drew ?_ | refine blk_alloc ?_ _)); exact BK392.out)) : gb404 ≠ gb392)); clear HO_0; clear HO_13; clear BK362; clear BK377; clear BK392; clear HB; have HO_0 := n0_; have HO_13 := n1_; have BK362 := n2_; have BK377 := n3_; have BK392 := n4_; have HB := n5_; have BK404 := n6_; have GW404 := n7_; have GE404 := n8_; have NB362_404 := n9_; have NB404_362 := n10_; have NB377_404 := n11_; have NB404_377 := n12_; have NB392_404 := n13_; have NB404_392 := n14_; clear n0_ n1_ n2_ n3_ n4_ n5_ n6_ n7_ n8_ n9_ n10_ n11_ n12_ n13_ n14_; clear hb hbox hg; have hnb50 := NB404_362.out; have hnc50 := NB362_404.out; have hnb51 := NB404_377.out; have hnc51 := NB377_404.out; have hnb52 := NB404_392.out; have hnc52 := NB392_404.out; have hcz53_0 : w49.cell? ⟨gb404, 0, none⟩ = some (.int .i64 0) := (blk_cell BK404.out 0).trans rfl; have hcz53_1 : w49.cell? ⟨gb404, 1, none⟩ = some (.int .i64 0) := (blk_cell BK404.out 1).trans rfl; have hcz53_2 : w49.cell? ⟨gb404, 2, none⟩ = some (.int .i64 0) := (blk_cell BK404.out 2).trans rfl; have hcz53_3 : w49.cell? ⟨gb404, 3, none⟩ = some (.bool false) := (blk_cell BK404.out 3).trans rfl; have hcz53_4 : w49.cell? ⟨gb404, 4, none⟩ = some (.int .i64 0) := (blk_cell BK404.out 4).trans rfl; have hcz53_5 : w49.cell? ⟨gb404, 5, none⟩ = some (.string (⟨#[]⟩ : ByteArray)) := (blk_cell BK404.out 5).trans rfl; have hcz53_6 : w49.cell? ⟨gb404, 6, none⟩ = some (.bool false) := (blk_cell BK404.out 6).trans rfl; have hcz53_7 : w49.cell? ⟨gb404, 7, none⟩ = some (.int .i64 0) := (blk_cell BK404.out 7).trans rfl; have hcz53_8 : w49.cell? ⟨gb404, 8, none⟩ = some (.string (⟨#[]⟩ : ByteArray)) := (blk_cell BK404.out 8).trans rfl; have hfz53_0 := blk_frozen BK404.out 0; have hfz53_1 := blk_frozen BK404.out 1; have hfz53_2 := blk_frozen BK404.out 2; have hfz53_3 := blk_frozen BK404.out 3; have hfz53_4 := blk_frozen BK404.out 4; have hfz53_5 := blk_frozen BK404.out 5; have hfz53_6 := blk_frozen BK404.out 6; have hfz53_7 := blk_frozen BK404.out 7; have hfz53_8 := blk_frozen BK404.out 8))
                              (try simp only [Act.put, List.setIfInBounds_toArray, List.set_cons_zero, List.set_cons_succ])
                              go_cut [102] (fun v102 wc => ∃ (kq : Nat) (x102_40 : Bool), v102 = .bool x102_40 ∧ Aside0 (tithebarnlaw18_SumsOrder.j4 kq l0 l2 t378 t379 x15_3 x102_40 = some r) ∧ Aside0 (kq ≤ kj32) ∧ Aside0 (Kd.V (Kd.slice 23 k23) 34 wc w.heap.size (fun k_ => (P0_ k_ ∨ w.heap.size ≤ k_) ∧ some k_ ≠ ((.slice Ao42 t378.length co42) : Value).ownBlock ∧ k_ ≠ gb362 ∧ k_ ≠ gb377 ∧ k_ ≠ gb392 ∧ k_ ≠ gb404) (.slice A0 l0.length c0) l0) ∧ Aside0 (Kd.N (Kd.slice 23 k23) 34 wc w.heap.size (fun k_ => (P0_ k_ ∨ w.heap.size ≤ k_) ∧ k_ ≠ gb362 ∧ k_ ≠ gb377 ∧ k_ ≠ gb392 ∧ k_ ≠ gb404) (.slice Ao42 t378.length co42) t378) ∧ Aside0 (wc.heap[gb362]? = some (.cells #[.int .i64 t352, .int .i64 t353, .int .i64 t354, .bool t355, .int .i64 t356, .string t357, .bool t358, .int .i64 t359, .string t360] 52 (0, 0))) ∧ Aside0 (wc.heap[gb377]? = some (.cells #[.int .i64 t367, .int .i64 t368, .int .i64 t369, .bool t370, .int .i64 t371, .string t372, .bool t373, .int .i64 t374, .string t375] 52 (0, 0))) ∧ Aside0 (wc.heap[gb392]? = some (.cells #[.int .i64 t382, .int .i64 t383, .int .i64 t384, .bool t385, .int .i64 t386, .string t387, .bool t388, .int .i64 t389, .string t390] 52 (0, 0))) ∧ Aside0 (wc.heap[gb404]? = some (.cells #[.int .i64 t394, .int .i64 t395, .int .i64 t396, .bool t397, .int .i64 t398, .string t399, .bool t400, .int .i64 t401, .string t402] 52 (0, 0))) ∧ Aside0 (Below w.heap.size w wc))
                              case first =>
                                have H := HC41.out
                                clear HC41
                                by_cases c54 : (!(t382 == t394) || (!(t383 == t395) || (!(t384 == t396) || ((!(t385 == t397) || (!(t386 == t398) || (!(t387.toList == t399.toList)))) || ((!(t388 == t400) || (!(t389 == t401) || (!(t390.toList == t402.toList))))))))) = true
                                · rw [if_pos c54] at H
                                  have c54b0 : (!(t382 == t394) || (!(t383 == t395) || (!(t384 == t396) || ((!(t385 == t397) || (!(t386 == t398) || (!(t387.toList == t399.toList)))) || ((!(t388 == t400) || (!(t389 == t401) || (!(t390.toList == t402.toList))))))))) = true := c54
                                  clear c54
                                  (first | rw [c54b0] | (simp only [i64_w, i32_w]; rw [c54b0]) | skip)
                                  have H' := Aside0.mk H
                                  clear H
                                  have hnb55 := NB392_362.out
                                  have hnc55 := NB362_392.out
                                  have hnb56 := NB392_377.out
                                  have hnc56 := NB377_392.out
                                  have hnb57 := NB392_404.out
                                  have hnc57 := NB404_392.out
                                  have hcz58_0 : w49.cell? ⟨gb392, 0, none⟩ = some (.int .i64 t382) := (blk_cell BK392.out 0).trans rfl
                                  have hcz58_1 : w49.cell? ⟨gb392, 1, none⟩ = some (.int .i64 t383) := (blk_cell BK392.out 1).trans rfl
                                  have hcz58_2 : w49.cell? ⟨gb392, 2, none⟩ = some (.int .i64 t384) := (blk_cell BK392.out 2).trans rfl
                                  have hcz58_3 : w49.cell? ⟨gb392, 3, none⟩ = some (.bool t385) := (blk_cell BK392.out 3).trans rfl
                                  have hcz58_4 : w49.cell? ⟨gb392, 4, none⟩ = some (.int .i64 t386) := (blk_cell BK392.out 4).trans rfl
                                  have hcz58_5 : w49.cell? ⟨gb392, 5, none⟩ = some (.string t387) := (blk_cell BK392.out 5).trans rfl
                                  have hcz58_6 : w49.cell? ⟨gb392, 6, none⟩ = some (.bool t388) := (blk_cell BK392.out 6).trans rfl
                                  have hcz58_7 : w49.cell? ⟨gb392, 7, none⟩ = some (.int .i64 t389) := (blk_cell BK392.out 7).trans rfl
                                  have hcz58_8 : w49.cell? ⟨gb392, 8, none⟩ = some (.string t390) := (blk_cell BK392.out 8).trans rfl
                                  have hfz58_0 := blk_frozen BK392.out 0
                                  have hfz58_1 := blk_frozen BK392.out 1
                                  have hfz58_2 := blk_frozen BK392.out 2
                                  have hfz58_3 := blk_frozen BK392.out 3
                                  have hfz58_4 := blk_frozen BK392.out 4
                                  have hfz58_5 := blk_frozen BK392.out 5
                                  have hfz58_6 := blk_frozen BK392.out 6
                                  have hfz58_7 := blk_frozen BK392.out 7
                                  have hfz58_8 := blk_frozen BK392.out 8
                                  have hnb59 := NB404_362.out
                                  have hnc59 := NB362_404.out
                                  have hnb60 := NB404_377.out
                                  have hnc60 := NB377_404.out
                                  have hcz61_0 : w49.cell? ⟨gb404, 0, none⟩ = some (.int .i64 0) := (blk_cell BK404.out 0).trans rfl
                                  have hcz61_1 : w49.cell? ⟨gb404, 1, none⟩ = some (.int .i64 0) := (blk_cell BK404.out 1).trans rfl
                                  have hcz61_2 : w49.cell? ⟨gb404, 2, none⟩ = some (.int .i64 0) := (blk_cell BK404.out 2).trans rfl
                                  have hcz61_3 : w49.cell? ⟨gb404, 3, none⟩ = some (.bool false) := (blk_cell BK404.out 3).trans rfl
                                  have hcz61_4 : w49.cell? ⟨gb404, 4, none⟩ = some (.int .i64 0) := (blk_cell BK404.out 4).trans rfl
                                  have hcz61_5 : w49.cell? ⟨gb404, 5, none⟩ = some (.string (⟨#[]⟩ : ByteArray)) := (blk_cell BK404.out 5).trans rfl
                                  have hcz61_6 : w49.cell? ⟨gb404, 6, none⟩ = some (.bool false) := (blk_cell BK404.out 6).trans rfl
                                  have hcz61_7 : w49.cell? ⟨gb404, 7, none⟩ = some (.int .i64 0) := (blk_cell BK404.out 7).trans rfl
                                  have hcz61_8 : w49.cell? ⟨gb404, 8, none⟩ = some (.string (⟨#[]⟩ : ByteArray)) := (blk_cell BK404.out 8).trans rfl
                                  have hfz61_0 := blk_frozen BK404.out 0
                                  have hfz61_1 := blk_frozen BK404.out 1
                                  have hfz61_2 := blk_frozen BK404.out 2
                                  have hfz61_3 := blk_frozen BK404.out 3
                                  have hfz61_4 := blk_frozen BK404.out 4
                                  have hfz61_5 := blk_frozen BK404.out 5
                                  have hfz61_6 := blk_frozen BK404.out 6
                                  have hfz61_7 := blk_frozen BK404.out 7
                                  have hfz61_8 := blk_frozen BK404.out 8
                                  go_wp2
                                  go_meet
                                  case rel => exact ⟨_, (true), (by first | rfl | (simp; done) | (simp [*]; done)), H', ⟨by have := HK1.out; have := HJ16.out; have := HK3.out; have := HJ32.out; first | omega | exact Nat.le_refl _⟩, ⟨by (with_reducible repeat (first | apply Kd.V_alloc | apply Kd.V_drewN | apply Kd.V_drew)); exact Kd.V_mono (Kd.V_far (p := ⟨gb404, 8, none⟩) (Kd.V_far (p := ⟨gb404, 7, none⟩) (Kd.V_far (p := ⟨gb404, 6, none⟩) (Kd.V_far (p := ⟨gb404, 5, none⟩) (Kd.V_far (p := ⟨gb404, 4, none⟩) (Kd.V_far (p := ⟨gb404, 3, none⟩) (Kd.V_far (p := ⟨gb404, 2, none⟩) (Kd.V_far (p := ⟨gb404, 1, none⟩) (Kd.V_far (p := ⟨gb404, 0, none⟩) (Kd.V_mono HO_0.out (fun k_ hk => (⟨hk, hk.2⟩ : _ ∧ k_ ≠ gb404))) (fun _ hk => hk.2) (.int .i64 t394)) (fun _ hk => hk.2) (.int .i64 t395)) (fun _ hk => hk.2) (.int .i64 t396)) (fun _ hk => hk.2) (.bool t397)) (fun _ hk => hk.2) (.int .i64 t398)) (fun _ hk => hk.2) (.string t399)) (fun _ hk => hk.2) (.bool t400)) (fun _ hk => hk.2) (.int .i64 t401)) (fun _ hk => hk.2) (.string t402)) (fun _ hk => ⟨hk.1.1.1.1, ⟨hk.1.1.1.2.1, ⟨hk.1.1.1.2.2.1, ⟨hk.1.1.1.2.2.2, ⟨hk.1.1.2, hk.1.2⟩⟩⟩⟩⟩)⟩, ⟨by (with_reducible repeat (first | apply Kd.N_alloc | apply Kd.N_drewN | apply Kd.N_drew)); exact Kd.N_mono (Kd.N_far (p := ⟨gb404, 8, none⟩) (Kd.N_far (p := ⟨gb404, 7, none⟩) (Kd.N_far (p := ⟨gb404, 6, none⟩) (Kd.N_far (p := ⟨gb404, 5, none⟩) (Kd.N_far (p := ⟨gb404, 4, none⟩) (Kd.N_far (p := ⟨gb404, 3, none⟩) (Kd.N_far (p := ⟨gb404, 2, none⟩) (Kd.N_far (p := ⟨gb404, 1, none⟩) (Kd.N_far (p := ⟨gb404, 0, none⟩) (Kd.N_mono HO_13.out (fun k_ hk => (⟨hk, hk.2⟩ : _ ∧ k_ ≠ gb404))) (fun _ hk => hk.2) (.int .i64 t394)) (fun _ hk => hk.2) (.int .i64 t395)) (fun _ hk => hk.2) (.int .i64 t396)) (fun _ hk => hk.2) (.bool t397)) (fun _ hk => hk.2) (.int .i64 t398)) (fun _ hk => hk.2) (.string t399)) (fun _ hk => hk.2) (.bool t400)) (fun _ hk => hk.2) (.int .i64 t401)) (fun _ hk => hk.2) (.string t402)) (fun _ hk => ⟨hk.1.1.1.1, ⟨hk.1.1.1.2.1, ⟨hk.1.1.1.2.2, ⟨hk.1.1.2, hk.1.2⟩⟩⟩⟩)⟩, ⟨by (with_reducible repeat (first | refine blk_drewN ?_ _ | refine blk_drew ?_ | refine blk_alloc ?_ _)); refine blk_far ?_ NB362_404.out _; (with_reducible repeat (first | refine blk_drewN ?_ _ | refine blk_drew ?_ | refine blk_alloc ?_ _)); refine blk_far ?_ NB362_404.out _; (with_reducible repeat (first | refine blk_drewN ?_ _ | refine blk_drew ?_ | refine blk_alloc ?_ _)); refine blk_far ?_ NB362_404.out _; (with_reducible repeat (first | refine blk_drewN ?_ _ | refine blk_drew ?_ | refine blk_alloc ?_ _)); refine blk_far ?_ NB362_404.out _; (with_reducible repeat (first | refine blk_drewN ?_ _ | refine blk_drew ?_ | refine blk_alloc ?_ _)); refine blk_far ?_ NB362_404.out _; (with_reducible repeat (first | refine blk_drewN ?_ _ | refine blk_drew ?_ | refine blk_alloc ?_ _)); refine blk_far ?_ NB362_404.out _; (with_reducible repeat (first | refine blk_drewN ?_ _ | refine blk_drew ?_ | refine blk_alloc ?_ _)); refine blk_far ?_ NB362_404.out _; (with_reducible repeat (first | refine blk_drewN ?_ _ | refine blk_drew ?_ | refine blk_alloc ?_ _)); refine blk_far ?_ NB362_404.out _; (with_reducible repeat (first | refine blk_drewN ?_ _ | refine blk_drew ?_ | refine blk_alloc ?_ _)); refine blk_far ?_ NB362_404.out _; (with_reducible repeat (first | refine blk_drewN ?_ _ | refine blk_drew ?_ | refine blk_alloc ?_ _)); exact BK362.out⟩, ⟨by (with_reducible repeat (first | refine blk_drewN ?_ _ | refine blk_drew ?_ | refine blk_alloc ?_ _)); refine blk_far ?_ NB377_404.out _; (with_reducible repeat (first | refine blk_drewN ?_ _ | refine blk_drew ?_ | refine blk_alloc ?_ _)); refine blk_far ?_ NB377_404.out _; (with_reducible repeat (first | refine blk_drewN ?_ _ | refine blk_drew ?_ | refine blk_alloc ?_ _)); refine blk_far ?_ NB377_404.out _; (with_reducible repeat (first | refine blk_drewN ?_ _ | refine blk_drew ?_ | refine blk_alloc ?_ _)); refine blk_far ?_ NB377_404.out _; (with_reducible repeat (first | refine blk_drewN ?_ _ | refine blk_drew ?_ | refine blk_alloc ?_ _)); refine blk_far ?_ NB377_404.out _; (with_reducible repeat (first | refine blk_drewN ?_ _ | refine blk_drew ?_ | refine blk_alloc ?_ _)); refine blk_far ?_ NB377_404.out _; (with_reducible repeat (first | refine blk_drewN ?_ _ | refine blk_drew ?_ | refine blk_alloc ?_ _)); refine blk_far ?_ NB377_404.out _; (with_reducible repeat (first | refine blk_drewN ?_ _ | refine blk_drew ?_ | refine blk_alloc ?_ _)); refine blk_far ?_ NB377_404.out _; (with_reducible repeat (first | refine blk_drewN ?_ _ | refine blk_drew ?_ | refine blk_alloc ?_ _)); refine blk_far ?_ NB377_404.out _; (with_reducible repeat (first | refine blk_drewN ?_ _ | refine blk_drew ?_ | refine blk_alloc ?_ _)); exact BK377.out⟩, ⟨by (with_reducible repeat (first | refine blk_drewN ?_ _ | refine blk_drew ?_ | refine blk_alloc ?_ _)); refine blk_far ?_ NB392_404.out _; (with_reducible repeat (first | refine blk_drewN ?_ _ | refine blk_drew ?_ | refine blk_alloc ?_ _)); refine blk_far ?_ NB392_404.out _; (with_reducible repeat (first | refine blk_drewN ?_ _ | refine blk_drew ?_ | refine blk_alloc ?_ _)); refine blk_far ?_ NB392_404.out _; (with_reducible repeat (first | refine blk_drewN ?_ _ | refine blk_drew ?_ | refine blk_alloc ?_ _)); refine blk_far ?_ NB392_404.out _; (with_reducible repeat (first | refine blk_drewN ?_ _ | refine blk_drew ?_ | refine blk_alloc ?_ _)); refine blk_far ?_ NB392_404.out _; (with_reducible repeat (first | refine blk_drewN ?_ _ | refine blk_drew ?_ | refine blk_alloc ?_ _)); refine blk_far ?_ NB392_404.out _; (with_reducible repeat (first | refine blk_drewN ?_ _ | refine blk_drew ?_ | refine blk_alloc ?_ _)); refine blk_far ?_ NB392_404.out _; (with_reducible repeat (first | refine blk_drewN ?_ _ | refine blk_drew ?_ | refine blk_alloc ?_ _)); refine blk_far ?_ NB392_404.out _; (with_reducible repeat (first | refine blk_drewN ?_ _ | refine blk_drew ?_ | refine blk_alloc ?_ _)); refine blk_far ?_ NB392_404.out _; (with_reducible repeat (first | refine blk_drewN ?_ _ | refine blk_drew ?_ | refine blk_alloc ?_ _)); exact BK392.out⟩, ⟨by (with_reducible repeat (first | refine blk_drewN ?_ _ | refine blk_drew ?_ | refine blk_alloc ?_ _)); refine blk_put (cs := #[.int .i64 t394, .int .i64 t395, .int .i64 t396, .bool t397, .int .i64 t398, .string t399, .bool t400, .int .i64 t401, .string (⟨#[]⟩ : ByteArray)]) ?_ 8 _ rfl; (with_reducible repeat (first | refine blk_drewN ?_ _ | refine blk_drew ?_ | refine blk_alloc ?_ _)); refine blk_put (cs := #[.int .i64 t394, .int .i64 t395, .int .i64 t396, .bool t397, .int .i64 t398, .string t399, .bool t400, .int .i64 0, .string (⟨#[]⟩ : ByteArray)]) ?_ 7 _ rfl; (with_reducible repeat (first | refine blk_drewN ?_ _ | refine blk_drew ?_ | refine blk_alloc ?_ _)); refine blk_put (cs := #[.int .i64 t394, .int .i64 t395, .int .i64 t396, .bool t397, .int .i64 t398, .string t399, .bool false, .int .i64 0, .string (⟨#[]⟩ : ByteArray)]) ?_ 6 _ rfl; (with_reducible repeat (first | refine blk_drewN ?_ _ | refine blk_drew ?_ | refine blk_alloc ?_ _)); refine blk_put (cs := #[.int .i64 t394, .int .i64 t395, .int .i64 t396, .bool t397, .int .i64 t398, .string (⟨#[]⟩ : ByteArray), .bool false, .int .i64 0, .string (⟨#[]⟩ : ByteArray)]) ?_ 5 _ rfl; (with_reducible repeat (first | refine blk_drewN ?_ _ | refine blk_drew ?_ | refine blk_alloc ?_ _)); refine blk_put (cs := #[.int .i64 t394, .int .i64 t395, .int .i64 t396, .bool t397, .int .i64 0, .string (⟨#[]⟩ : ByteArray), .bool false, .int .i64 0, .string (⟨#[]⟩ : ByteArray)]) ?_ 4 _ rfl; (with_reducible repeat (first | refine blk_drewN ?_ _ | refine blk_drew ?_ | refine blk_alloc ?_ _)); refine blk_put (cs := #[.int .i64 t394, .int .i64 t395, .int .i64 t396, .bool false, .int .i64 0, .string (⟨#[]⟩ : ByteArray), .bool false, .int .i64 0, .string (⟨#[]⟩ : ByteArray)]) ?_ 3 _ rfl; (with_reducible repeat (first | refine blk_drewN ?_ _ | refine blk_drew ?_ | refine blk_alloc ?_ _)); refine blk_put (cs := #[.int .i64 t394, .int .i64 t395, .int .i64 0, .bool false, .int .i64 0, .string (⟨#[]⟩ : ByteArray), .bool false, .int .i64 0, .string (⟨#[]⟩ : ByteArray)]) ?_ 2 _ rfl; (with_reducible repeat (first | refine blk_drewN ?_ _ | refine blk_drew ?_ | refine blk_alloc ?_ _)); refine blk_put (cs := #[.int .i64 t394, .int .i64 0, .int .i64 0, .bool false, .int .i64 0, .string (⟨#[]⟩ : ByteArray), .bool false, .int .i64 0, .string (⟨#[]⟩ : ByteArray)]) ?_ 1 _ rfl; (with_reducible repeat (first | refine blk_drewN ?_ _ | refine blk_drew ?_ | refine blk_alloc ?_ _)); refine blk_put (cs := #[.int .i64 0, .int .i64 0, .int .i64 0, .bool false, .int .i64 0, .string (⟨#[]⟩ : ByteArray), .bool false, .int .i64 0, .string (⟨#[]⟩ : ByteArray)]) ?_ 0 _ rfl; (with_reducible repeat (first | refine blk_drewN ?_ _ | refine blk_drew ?_ | refine blk_alloc ?_ _)); exact BK404.out⟩, ⟨by repeat (first | (with_reducible first | exact HB.out | apply below_alloc | apply pw_below_drewN | apply below_drew1 | refine below_set ?_ GE362.out | refine below_set ?_ GE377.out | refine below_set ?_ GE392.out | refine below_set ?_ GE404.out) | exact HB.out)⟩⟩
                                · rw [if_neg c54] at H
                                  have c54b0 : (!(t382 == t394) || (!(t383 == t395) || (!(t384 == t396) || ((!(t385 == t397) || (!(t386 == t398) || (!(t387.toList == t399.toList)))) || ((!(t388 == t400) || (!(t389 == t401) || (!(t390.toList == t402.toList))))))))) = false := by simpa using c54
                                  clear c54
                                  (first | rw [c54b0] | (simp only [i64_w, i32_w]; rw [c54b0]) | skip)
                                  by_cases c62 : t391 = 0
                                  · rw [if_pos c62] at H
                                    have c62b0 : (t391 == 0) = true := beq_iff_eq.mpr c62
                                    have c62b1 : (t391 != 0) = false := bne_eq_false_iff_eq.mpr c62
                                    clear c62
                                    have H' := Aside0.mk H
                                    clear H
                                    have hnb63 := NB392_362.out
                                    have hnc63 := NB362_392.out
                                    have hnb64 := NB392_377.out
                                    have hnc64 := NB377_392.out
                                    have hnb65 := NB392_404.out
                                    have hnc65 := NB404_392.out
                                    have hcz66_0 : w49.cell? ⟨gb392, 0, none⟩ = some (.int .i64 t382) := (blk_cell BK392.out 0).trans rfl
                                    have hcz66_1 : w49.cell? ⟨gb392, 1, none⟩ = some (.int .i64 t383) := (blk_cell BK392.out 1).trans rfl
                                    have hcz66_2 : w49.cell? ⟨gb392, 2, none⟩ = some (.int .i64 t384) := (blk_cell BK392.out 2).trans rfl
                                    have hcz66_3 : w49.cell? ⟨gb392, 3, none⟩ = some (.bool t385) := (blk_cell BK392.out 3).trans rfl
                                    have hcz66_4 : w49.cell? ⟨gb392, 4, none⟩ = some (.int .i64 t386) := (blk_cell BK392.out 4).trans rfl
                                    have hcz66_5 : w49.cell? ⟨gb392, 5, none⟩ = some (.string t387) := (blk_cell BK392.out 5).trans rfl
                                    have hcz66_6 : w49.cell? ⟨gb392, 6, none⟩ = some (.bool t388) := (blk_cell BK392.out 6).trans rfl
                                    have hcz66_7 : w49.cell? ⟨gb392, 7, none⟩ = some (.int .i64 t389) := (blk_cell BK392.out 7).trans rfl
                                    have hcz66_8 : w49.cell? ⟨gb392, 8, none⟩ = some (.string t390) := (blk_cell BK392.out 8).trans rfl
                                    have hfz66_0 := blk_frozen BK392.out 0
                                    have hfz66_1 := blk_frozen BK392.out 1
                                    have hfz66_2 := blk_frozen BK392.out 2
                                    have hfz66_3 := blk_frozen BK392.out 3
                                    have hfz66_4 := blk_frozen BK392.out 4
                                    have hfz66_5 := blk_frozen BK392.out 5
                                    have hfz66_6 := blk_frozen BK392.out 6
                                    have hfz66_7 := blk_frozen BK392.out 7
                                    have hfz66_8 := blk_frozen BK392.out 8
                                    have hnb67 := NB404_362.out
                                    have hnc67 := NB362_404.out
                                    have hnb68 := NB404_377.out
                                    have hnc68 := NB377_404.out
                                    have hcz69_0 : w49.cell? ⟨gb404, 0, none⟩ = some (.int .i64 0) := (blk_cell BK404.out 0).trans rfl
                                    have hcz69_1 : w49.cell? ⟨gb404, 1, none⟩ = some (.int .i64 0) := (blk_cell BK404.out 1).trans rfl
                                    have hcz69_2 : w49.cell? ⟨gb404, 2, none⟩ = some (.int .i64 0) := (blk_cell BK404.out 2).trans rfl
                                    have hcz69_3 : w49.cell? ⟨gb404, 3, none⟩ = some (.bool false) := (blk_cell BK404.out 3).trans rfl
                                    have hcz69_4 : w49.cell? ⟨gb404, 4, none⟩ = some (.int .i64 0) := (blk_cell BK404.out 4).trans rfl
                                    have hcz69_5 : w49.cell? ⟨gb404, 5, none⟩ = some (.string (⟨#[]⟩ : ByteArray)) := (blk_cell BK404.out 5).trans rfl
                                    have hcz69_6 : w49.cell? ⟨gb404, 6, none⟩ = some (.bool false) := (blk_cell BK404.out 6).trans rfl
                                    have hcz69_7 : w49.cell? ⟨gb404, 7, none⟩ = some (.int .i64 0) := (blk_cell BK404.out 7).trans rfl
                                    have hcz69_8 : w49.cell? ⟨gb404, 8, none⟩ = some (.string (⟨#[]⟩ : ByteArray)) := (blk_cell BK404.out 8).trans rfl
                                    have hfz69_0 := blk_frozen BK404.out 0
                                    have hfz69_1 := blk_frozen BK404.out 1
                                    have hfz69_2 := blk_frozen BK404.out 2
                                    have hfz69_3 := blk_frozen BK404.out 3
                                    have hfz69_4 := blk_frozen BK404.out 4
                                    have hfz69_5 := blk_frozen BK404.out 5
                                    have hfz69_6 := blk_frozen BK404.out 6
                                    have hfz69_7 := blk_frozen BK404.out 7
                                    have hfz69_8 := blk_frozen BK404.out 8
                                    go_wp2
                                    go_meet
                                    case rel => exact ⟨_, ((t403 != 0)), (by first | rfl | (simp; done) | (simp [*]; done)), H', ⟨by have := HK1.out; have := HJ16.out; have := HK3.out; have := HJ32.out; first | omega | exact Nat.le_refl _⟩, ⟨by (with_reducible repeat (first | apply Kd.V_alloc | apply Kd.V_drewN | apply Kd.V_drew)); exact Kd.V_mono (Kd.V_far (p := ⟨gb404, 8, none⟩) (Kd.V_far (p := ⟨gb404, 7, none⟩) (Kd.V_far (p := ⟨gb404, 6, none⟩) (Kd.V_far (p := ⟨gb404, 5, none⟩) (Kd.V_far (p := ⟨gb404, 4, none⟩) (Kd.V_far (p := ⟨gb404, 3, none⟩) (Kd.V_far (p := ⟨gb404, 2, none⟩) (Kd.V_far (p := ⟨gb404, 1, none⟩) (Kd.V_far (p := ⟨gb404, 0, none⟩) (Kd.V_mono HO_0.out (fun k_ hk => (⟨hk, hk.2⟩ : _ ∧ k_ ≠ gb404))) (fun _ hk => hk.2) (.int .i64 t394)) (fun _ hk => hk.2) (.int .i64 t395)) (fun _ hk => hk.2) (.int .i64 t396)) (fun _ hk => hk.2) (.bool t397)) (fun _ hk => hk.2) (.int .i64 t398)) (fun _ hk => hk.2) (.string t399)) (fun _ hk => hk.2) (.bool t400)) (fun _ hk => hk.2) (.int .i64 t401)) (fun _ hk => hk.2) (.string t402)) (fun _ hk => ⟨hk.1.1.1.1, ⟨hk.1.1.1.2.1, ⟨hk.1.1.1.2.2.1, ⟨hk.1.1.1.2.2.2, ⟨hk.1.1.2, hk.1.2⟩⟩⟩⟩⟩)⟩, ⟨by (with_reducible repeat (first | apply Kd.N_alloc | apply Kd.N_drewN | apply Kd.N_drew)); exact Kd.N_mono (Kd.N_far (p := ⟨gb404, 8, none⟩) (Kd.N_far (p := ⟨gb404, 7, none⟩) (Kd.N_far (p := ⟨gb404, 6, none⟩) (Kd.N_far (p := ⟨gb404, 5, none⟩) (Kd.N_far (p := ⟨gb404, 4, none⟩) (Kd.N_far (p := ⟨gb404, 3, none⟩) (Kd.N_far (p := ⟨gb404, 2, none⟩) (Kd.N_far (p := ⟨gb404, 1, none⟩) (Kd.N_far (p := ⟨gb404, 0, none⟩) (Kd.N_mono HO_13.out (fun k_ hk => (⟨hk, hk.2⟩ : _ ∧ k_ ≠ gb404))) (fun _ hk => hk.2) (.int .i64 t394)) (fun _ hk => hk.2) (.int .i64 t395)) (fun _ hk => hk.2) (.int .i64 t396)) (fun _ hk => hk.2) (.bool t397)) (fun _ hk => hk.2) (.int .i64 t398)) (fun _ hk => hk.2) (.string t399)) (fun _ hk => hk.2) (.bool t400)) (fun _ hk => hk.2) (.int .i64 t401)) (fun _ hk => hk.2) (.string t402)) (fun _ hk => ⟨hk.1.1.1.1, ⟨hk.1.1.1.2.1, ⟨hk.1.1.1.2.2, ⟨hk.1.1.2, hk.1.2⟩⟩⟩⟩)⟩, ⟨by (with_reducible repeat (first | refine blk_drewN ?_ _ | refine blk_drew ?_ | refine blk_alloc ?_ _)); refine blk_far ?_ NB362_404.out _; (with_reducible repeat (first | refine blk_drewN ?_ _ | refine blk_drew ?_ | refine blk_alloc ?_ _)); refine blk_far ?_ NB362_404.out _; (with_reducible repeat (first | refine blk_drewN ?_ _ | refine blk_drew ?_ | refine blk_alloc ?_ _)); refine blk_far ?_ NB362_404.out _; (with_reducible repeat (first | refine blk_drewN ?_ _ | refine blk_drew ?_ | refine blk_alloc ?_ _)); refine blk_far ?_ NB362_404.out _; (with_reducible repeat (first | refine blk_drewN ?_ _ | refine blk_drew ?_ | refine blk_alloc ?_ _)); refine blk_far ?_ NB362_404.out _; (with_reducible repeat (first | refine blk_drewN ?_ _ | refine blk_drew ?_ | refine blk_alloc ?_ _)); refine blk_far ?_ NB362_404.out _; (with_reducible repeat (first | refine blk_drewN ?_ _ | refine blk_drew ?_ | refine blk_alloc ?_ _)); refine blk_far ?_ NB362_404.out _; (with_reducible repeat (first | refine blk_drewN ?_ _ | refine blk_drew ?_ | refine blk_alloc ?_ _)); refine blk_far ?_ NB362_404.out _; (with_reducible repeat (first | refine blk_drewN ?_ _ | refine blk_drew ?_ | refine blk_alloc ?_ _)); refine blk_far ?_ NB362_404.out _; (with_reducible repeat (first | refine blk_drewN ?_ _ | refine blk_drew ?_ | refine blk_alloc ?_ _)); exact BK362.out⟩, ⟨by (with_reducible repeat (first | refine blk_drewN ?_ _ | refine blk_drew ?_ | refine blk_alloc ?_ _)); refine blk_far ?_ NB377_404.out _; (with_reducible repeat (first | refine blk_drewN ?_ _ | refine blk_drew ?_ | refine blk_alloc ?_ _)); refine blk_far ?_ NB377_404.out _; (with_reducible repeat (first | refine blk_drewN ?_ _ | refine blk_drew ?_ | refine blk_alloc ?_ _)); refine blk_far ?_ NB377_404.out _; (with_reducible repeat (first | refine blk_drewN ?_ _ | refine blk_drew ?_ | refine blk_alloc ?_ _)); refine blk_far ?_ NB377_404.out _; (with_reducible repeat (first | refine blk_drewN ?_ _ | refine blk_drew ?_ | refine blk_alloc ?_ _)); refine blk_far ?_ NB377_404.out _; (with_reducible repeat (first | refine blk_drewN ?_ _ | refine blk_drew ?_ | refine blk_alloc ?_ _)); refine blk_far ?_ NB377_404.out _; (with_reducible repeat (first | refine blk_drewN ?_ _ | refine blk_drew ?_ | refine blk_alloc ?_ _)); refine blk_far ?_ NB377_404.out _; (with_reducible repeat (first | refine blk_drewN ?_ _ | refine blk_drew ?_ | refine blk_alloc ?_ _)); refine blk_far ?_ NB377_404.out _; (with_reducible repeat (first | refine blk_drewN ?_ _ | refine blk_drew ?_ | refine blk_alloc ?_ _)); refine blk_far ?_ NB377_404.out _; (with_reducible repeat (first | refine blk_drewN ?_ _ | refine blk_drew ?_ | refine blk_alloc ?_ _)); exact BK377.out⟩, ⟨by (with_reducible repeat (first | refine blk_drewN ?_ _ | refine blk_drew ?_ | refine blk_alloc ?_ _)); refine blk_far ?_ NB392_404.out _; (with_reducible repeat (first | refine blk_drewN ?_ _ | refine blk_drew ?_ | refine blk_alloc ?_ _)); refine blk_far ?_ NB392_404.out _; (with_reducible repeat (first | refine blk_drewN ?_ _ | refine blk_drew ?_ | refine blk_alloc ?_ _)); refine blk_far ?_ NB392_404.out _; (with_reducible repeat (first | refine blk_drewN ?_ _ | refine blk_drew ?_ | refine blk_alloc ?_ _)); refine blk_far ?_ NB392_404.out _; (with_reducible repeat (first | refine blk_drewN ?_ _ | refine blk_drew ?_ | refine blk_alloc ?_ _)); refine blk_far ?_ NB392_404.out _; (with_reducible repeat (first | refine blk_drewN ?_ _ | refine blk_drew ?_ | refine blk_alloc ?_ _)); refine blk_far ?_ NB392_404.out _; (with_reducible repeat (first | refine blk_drewN ?_ _ | refine blk_drew ?_ | refine blk_alloc ?_ _)); refine blk_far ?_ NB392_404.out _; (with_reducible repeat (first | refine blk_drewN ?_ _ | refine blk_drew ?_ | refine blk_alloc ?_ _)); refine blk_far ?_ NB392_404.out _; (with_reducible repeat (first | refine blk_drewN ?_ _ | refine blk_drew ?_ | refine blk_alloc ?_ _)); refine blk_far ?_ NB392_404.out _; (with_reducible repeat (first | refine blk_drewN ?_ _ | refine blk_drew ?_ | refine blk_alloc ?_ _)); exact BK392.out⟩, ⟨by (with_reducible repeat (first | refine blk_drewN ?_ _ | refine blk_drew ?_ | refine blk_alloc ?_ _)); refine blk_put (cs := #[.int .i64 t394, .int .i64 t395, .int .i64 t396, .bool t397, .int .i64 t398, .string t399, .bool t400, .int .i64 t401, .string (⟨#[]⟩ : ByteArray)]) ?_ 8 _ rfl; (with_reducible repeat (first | refine blk_drewN ?_ _ | refine blk_drew ?_ | refine blk_alloc ?_ _)); refine blk_put (cs := #[.int .i64 t394, .int .i64 t395, .int .i64 t396, .bool t397, .int .i64 t398, .string t399, .bool t400, .int .i64 0, .string (⟨#[]⟩ : ByteArray)]) ?_ 7 _ rfl; (with_reducible repeat (first | refine blk_drewN ?_ _ | refine blk_drew ?_ | refine blk_alloc ?_ _)); refine blk_put (cs := #[.int .i64 t394, .int .i64 t395, .int .i64 t396, .bool t397, .int .i64 t398, .string t399, .bool false, .int .i64 0, .string (⟨#[]⟩ : ByteArray)]) ?_ 6 _ rfl; (with_reducible repeat (first | refine blk_drewN ?_ _ | refine blk_drew ?_ | refine blk_alloc ?_ _)); refine blk_put (cs := #[.int .i64 t394, .int .i64 t395, .int .i64 t396, .bool t397, .int .i64 t398, .string (⟨#[]⟩ : ByteArray), .bool false, .int .i64 0, .string (⟨#[]⟩ : ByteArray)]) ?_ 5 _ rfl; (with_reducible repeat (first | refine blk_drewN ?_ _ | refine blk_drew ?_ | refine blk_alloc ?_ _)); refine blk_put (cs := #[.int .i64 t394, .int .i64 t395, .int .i64 t396, .bool t397, .int .i64 0, .string (⟨#[]⟩ : ByteArray), .bool false, .int .i64 0, .string (⟨#[]⟩ : ByteArray)]) ?_ 4 _ rfl; (with_reducible repeat (first | refine blk_drewN ?_ _ | refine blk_drew ?_ | refine blk_alloc ?_ _)); refine blk_put (cs := #[.int .i64 t394, .int .i64 t395, .int .i64 t396, .bool false, .int .i64 0, .string (⟨#[]⟩ : ByteArray), .bool false, .int .i64 0, .string (⟨#[]⟩ : ByteArray)]) ?_ 3 _ rfl; (with_reducible repeat (first | refine blk_drewN ?_ _ | refine blk_drew ?_ | refine blk_alloc ?_ _)); refine blk_put (cs := #[.int .i64 t394, .int .i64 t395, .int .i64 0, .bool false, .int .i64 0, .string (⟨#[]⟩ : ByteArray), .bool false, .int .i64 0, .string (⟨#[]⟩ : ByteArray)]) ?_ 2 _ rfl; (with_reducible repeat (first | refine blk_drewN ?_ _ | refine blk_drew ?_ | refine blk_alloc ?_ _)); refine blk_put (cs := #[.int .i64 t394, .int .i64 0, .int .i64 0, .bool false, .int .i64 0, .string (⟨#[]⟩ : ByteArray), .bool false, .int .i64 0, .string (⟨#[]⟩ : ByteArray)]) ?_ 1 _ rfl; (with_reducible repeat (first | refine blk_drewN ?_ _ | refine blk_drew ?_ | refine blk_alloc ?_ _)); refine blk_put (cs := #[.int .i64 0, .int .i64 0, .int .i64 0, .bool false, .int .i64 0, .string (⟨#[]⟩ : ByteArray), .bool false, .int .i64 0, .string (⟨#[]⟩ : ByteArray)]) ?_ 0 _ rfl; (with_reducible repeat (first | refine blk_drewN ?_ _ | refine blk_drew ?_ | refine blk_alloc ?_ _)); exact BK404.out⟩, ⟨by repeat (first | (with_reducible first | exact HB.out | apply below_alloc | apply pw_below_drewN | apply below_drew1 | refine below_set ?_ GE362.out | refine below_set ?_ GE377.out | refine below_set ?_ GE392.out | refine below_set ?_ GE404.out) | exact HB.out)⟩⟩
                                  · rw [if_neg c62] at H
                                    have c62b0 : (t391 == 0) = false := beq_eq_false_iff_ne.mpr c62
                                    have c62b1 : (t391 != 0) = true := bne_iff_ne.mpr c62
                                    have H' := Aside0.mk H
                                    clear H
                                    have hnb70 := NB392_362.out
                                    have hnc70 := NB362_392.out
                                    have hnb71 := NB392_377.out
                                    have hnc71 := NB377_392.out
                                    have hnb72 := NB392_404.out
                                    have hnc72 := NB404_392.out
                                    have hcz73_0 : w49.cell? ⟨gb392, 0, none⟩ = some (.int .i64 t382) := (blk_cell BK392.out 0).trans rfl
                                    have hcz73_1 : w49.cell? ⟨gb392, 1, none⟩ = some (.int .i64 t383) := (blk_cell BK392.out 1).trans rfl
                                    have hcz73_2 : w49.cell? ⟨gb392, 2, none⟩ = some (.int .i64 t384) := (blk_cell BK392.out 2).trans rfl
                                    have hcz73_3 : w49.cell? ⟨gb392, 3, none⟩ = some (.bool t385) := (blk_cell BK392.out 3).trans rfl
                                    have hcz73_4 : w49.cell? ⟨gb392, 4, none⟩ = some (.int .i64 t386) := (blk_cell BK392.out 4).trans rfl
                                    have hcz73_5 : w49.cell? ⟨gb392, 5, none⟩ = some (.string t387) := (blk_cell BK392.out 5).trans rfl
                                    have hcz73_6 : w49.cell? ⟨gb392, 6, none⟩ = some (.bool t388) := (blk_cell BK392.out 6).trans rfl
                                    have hcz73_7 : w49.cell? ⟨gb392, 7, none⟩ = some (.int .i64 t389) := (blk_cell BK392.out 7).trans rfl
                                    have hcz73_8 : w49.cell? ⟨gb392, 8, none⟩ = some (.string t390) := (blk_cell BK392.out 8).trans rfl
                                    have hfz73_0 := blk_frozen BK392.out 0
                                    have hfz73_1 := blk_frozen BK392.out 1
                                    have hfz73_2 := blk_frozen BK392.out 2
                                    have hfz73_3 := blk_frozen BK392.out 3
                                    have hfz73_4 := blk_frozen BK392.out 4
                                    have hfz73_5 := blk_frozen BK392.out 5
                                    have hfz73_6 := blk_frozen BK392.out 6
                                    have hfz73_7 := blk_frozen BK392.out 7
                                    have hfz73_8 := blk_frozen BK392.out 8
                                    have hnb74 := NB404_362.out
                                    have hnc74 := NB362_404.out
                                    have hnb75 := NB404_377.out
                                    have hnc75 := NB377_404.out
                                    have hcz76_0 : w49.cell? ⟨gb404, 0, none⟩ = some (.int .i64 0) := (blk_cell BK404.out 0).trans rfl
                                    have hcz76_1 : w49.cell? ⟨gb404, 1, none⟩ = some (.int .i64 0) := (blk_cell BK404.out 1).trans rfl
                                    have hcz76_2 : w49.cell? ⟨gb404, 2, none⟩ = some (.int .i64 0) := (blk_cell BK404.out 2).trans rfl
                                    have hcz76_3 : w49.cell? ⟨gb404, 3, none⟩ = some (.bool false) := (blk_cell BK404.out 3).trans rfl
                                    have hcz76_4 : w49.cell? ⟨gb404, 4, none⟩ = some (.int .i64 0) := (blk_cell BK404.out 4).trans rfl
                                    have hcz76_5 : w49.cell? ⟨gb404, 5, none⟩ = some (.string (⟨#[]⟩ : ByteArray)) := (blk_cell BK404.out 5).trans rfl
                                    have hcz76_6 : w49.cell? ⟨gb404, 6, none⟩ = some (.bool false) := (blk_cell BK404.out 6).trans rfl
                                    have hcz76_7 : w49.cell? ⟨gb404, 7, none⟩ = some (.int .i64 0) := (blk_cell BK404.out 7).trans rfl
                                    have hcz76_8 : w49.cell? ⟨gb404, 8, none⟩ = some (.string (⟨#[]⟩ : ByteArray)) := (blk_cell BK404.out 8).trans rfl
                                    have hfz76_0 := blk_frozen BK404.out 0
                                    have hfz76_1 := blk_frozen BK404.out 1
                                    have hfz76_2 := blk_frozen BK404.out 2
                                    have hfz76_3 := blk_frozen BK404.out 3
                                    have hfz76_4 := blk_frozen BK404.out 4
                                    have hfz76_5 := blk_frozen BK404.out 5
                                    have hfz76_6 := blk_frozen BK404.out 6
                                    have hfz76_7 := blk_frozen BK404.out 7
                                    have hfz76_8 := blk_frozen BK404.out 8
                                    go_wp2
                                    go_meet
                                    case rel => exact ⟨_, (true), (by first | rfl | (simp; done) | (simp [*]; done)), H', ⟨by have := HK1.out; have := HJ16.out; have := HK3.out; have := HJ32.out; first | omega | exact Nat.le_refl _⟩, ⟨by (with_reducible repeat (first | apply Kd.V_alloc | apply Kd.V_drewN | apply Kd.V_drew)); exact Kd.V_mono (Kd.V_far (p := ⟨gb404, 8, none⟩) (Kd.V_far (p := ⟨gb404, 7, none⟩) (Kd.V_far (p := ⟨gb404, 6, none⟩) (Kd.V_far (p := ⟨gb404, 5, none⟩) (Kd.V_far (p := ⟨gb404, 4, none⟩) (Kd.V_far (p := ⟨gb404, 3, none⟩) (Kd.V_far (p := ⟨gb404, 2, none⟩) (Kd.V_far (p := ⟨gb404, 1, none⟩) (Kd.V_far (p := ⟨gb404, 0, none⟩) (Kd.V_mono HO_0.out (fun k_ hk => (⟨hk, hk.2⟩ : _ ∧ k_ ≠ gb404))) (fun _ hk => hk.2) (.int .i64 t394)) (fun _ hk => hk.2) (.int .i64 t395)) (fun _ hk => hk.2) (.int .i64 t396)) (fun _ hk => hk.2) (.bool t397)) (fun _ hk => hk.2) (.int .i64 t398)) (fun _ hk => hk.2) (.string t399)) (fun _ hk => hk.2) (.bool t400)) (fun _ hk => hk.2) (.int .i64 t401)) (fun _ hk => hk.2) (.string t402)) (fun _ hk => ⟨hk.1.1.1.1, ⟨hk.1.1.1.2.1, ⟨hk.1.1.1.2.2.1, ⟨hk.1.1.1.2.2.2, ⟨hk.1.1.2, hk.1.2⟩⟩⟩⟩⟩)⟩, ⟨by (with_reducible repeat (first | apply Kd.N_alloc | apply Kd.N_drewN | apply Kd.N_drew)); exact Kd.N_mono (Kd.N_far (p := ⟨gb404, 8, none⟩) (Kd.N_far (p := ⟨gb404, 7, none⟩) (Kd.N_far (p := ⟨gb404, 6, none⟩) (Kd.N_far (p := ⟨gb404, 5, none⟩) (Kd.N_far (p := ⟨gb404, 4, none⟩) (Kd.N_far (p := ⟨gb404, 3, none⟩) (Kd.N_far (p := ⟨gb404, 2, none⟩) (Kd.N_far (p := ⟨gb404, 1, none⟩) (Kd.N_far (p := ⟨gb404, 0, none⟩) (Kd.N_mono HO_13.out (fun k_ hk => (⟨hk, hk.2⟩ : _ ∧ k_ ≠ gb404))) (fun _ hk => hk.2) (.int .i64 t394)) (fun _ hk => hk.2) (.int .i64 t395)) (fun _ hk => hk.2) (.int .i64 t396)) (fun _ hk => hk.2) (.bool t397)) (fun _ hk => hk.2) (.int .i64 t398)) (fun _ hk => hk.2) (.string t399)) (fun _ hk => hk.2) (.bool t400)) (fun _ hk => hk.2) (.int .i64 t401)) (fun _ hk => hk.2) (.string t402)) (fun _ hk => ⟨hk.1.1.1.1, ⟨hk.1.1.1.2.1, ⟨hk.1.1.1.2.2, ⟨hk.1.1.2, hk.1.2⟩⟩⟩⟩)⟩, ⟨by (with_reducible repeat (first | refine blk_drewN ?_ _ | refine blk_drew ?_ | refine blk_alloc ?_ _)); refine blk_far ?_ NB362_404.out _; (with_reducible repeat (first | refine blk_drewN ?_ _ | refine blk_drew ?_ | refine blk_alloc ?_ _)); refine blk_far ?_ NB362_404.out _; (with_reducible repeat (first | refine blk_drewN ?_ _ | refine blk_drew ?_ | refine blk_alloc ?_ _)); refine blk_far ?_ NB362_404.out _; (with_reducible repeat (first | refine blk_drewN ?_ _ | refine blk_drew ?_ | refine blk_alloc ?_ _)); refine blk_far ?_ NB362_404.out _; (with_reducible repeat (first | refine blk_drewN ?_ _ | refine blk_drew ?_ | refine blk_alloc ?_ _)); refine blk_far ?_ NB362_404.out _; (with_reducible repeat (first | refine blk_drewN ?_ _ | refine blk_drew ?_ | refine blk_alloc ?_ _)); refine blk_far ?_ NB362_404.out _; (with_reducible repeat (first | refine blk_drewN ?_ _ | refine blk_drew ?_ | refine blk_alloc ?_ _)); refine blk_far ?_ NB362_404.out _; (with_reducible repeat (first | refine blk_drewN ?_ _ | refine blk_drew ?_ | refine blk_alloc ?_ _)); refine blk_far ?_ NB362_404.out _; (with_reducible repeat (first | refine blk_drewN ?_ _ | refine blk_drew ?_ | refine blk_alloc ?_ _)); refine blk_far ?_ NB362_404.out _; (with_reducible repeat (first | refine blk_drewN ?_ _ | refine blk_drew ?_ | refine blk_alloc ?_ _)); exact BK362.out⟩, ⟨by (with_reducible repeat (first | refine blk_drewN ?_ _ | refine blk_drew ?_ | refine blk_alloc ?_ _)); refine blk_far ?_ NB377_404.out _; (with_reducible repeat (first | refine blk_drewN ?_ _ | refine blk_drew ?_ | refine blk_alloc ?_ _)); refine blk_far ?_ NB377_404.out _; (with_reducible repeat (first | refine blk_drewN ?_ _ | refine blk_drew ?_ | refine blk_alloc ?_ _)); refine blk_far ?_ NB377_404.out _; (with_reducible repeat (first | refine blk_drewN ?_ _ | refine blk_drew ?_ | refine blk_alloc ?_ _)); refine blk_far ?_ NB377_404.out _; (with_reducible repeat (first | refine blk_drewN ?_ _ | refine blk_drew ?_ | refine blk_alloc ?_ _)); refine blk_far ?_ NB377_404.out _; (with_reducible repeat (first | refine blk_drewN ?_ _ | refine blk_drew ?_ | refine blk_alloc ?_ _)); refine blk_far ?_ NB377_404.out _; (with_reducible repeat (first | refine blk_drewN ?_ _ | refine blk_drew ?_ | refine blk_alloc ?_ _)); refine blk_far ?_ NB377_404.out _; (with_reducible repeat (first | refine blk_drewN ?_ _ | refine blk_drew ?_ | refine blk_alloc ?_ _)); refine blk_far ?_ NB377_404.out _; (with_reducible repeat (first | refine blk_drewN ?_ _ | refine blk_drew ?_ | refine blk_alloc ?_ _)); refine blk_far ?_ NB377_404.out _; (with_reducible repeat (first | refine blk_drewN ?_ _ | refine blk_drew ?_ | refine blk_alloc ?_ _)); exact BK377.out⟩, ⟨by (with_reducible repeat (first | refine blk_drewN ?_ _ | refine blk_drew ?_ | refine blk_alloc ?_ _)); refine blk_far ?_ NB392_404.out _; (with_reducible repeat (first | refine blk_drewN ?_ _ | refine blk_drew ?_ | refine blk_alloc ?_ _)); refine blk_far ?_ NB392_404.out _; (with_reducible repeat (first | refine blk_drewN ?_ _ | refine blk_drew ?_ | refine blk_alloc ?_ _)); refine blk_far ?_ NB392_404.out _; (with_reducible repeat (first | refine blk_drewN ?_ _ | refine blk_drew ?_ | refine blk_alloc ?_ _)); refine blk_far ?_ NB392_404.out _; (with_reducible repeat (first | refine blk_drewN ?_ _ | refine blk_drew ?_ | refine blk_alloc ?_ _)); refine blk_far ?_ NB392_404.out _; (with_reducible repeat (first | refine blk_drewN ?_ _ | refine blk_drew ?_ | refine blk_alloc ?_ _)); refine blk_far ?_ NB392_404.out _; (with_reducible repeat (first | refine blk_drewN ?_ _ | refine blk_drew ?_ | refine blk_alloc ?_ _)); refine blk_far ?_ NB392_404.out _; (with_reducible repeat (first | refine blk_drewN ?_ _ | refine blk_drew ?_ | refine blk_alloc ?_ _)); refine blk_far ?_ NB392_404.out _; (with_reducible repeat (first | refine blk_drewN ?_ _ | refine blk_drew ?_ | refine blk_alloc ?_ _)); refine blk_far ?_ NB392_404.out _; (with_reducible repeat (first | refine blk_drewN ?_ _ | refine blk_drew ?_ | refine blk_alloc ?_ _)); exact BK392.out⟩, ⟨by (with_reducible repeat (first | refine blk_drewN ?_ _ | refine blk_drew ?_ | refine blk_alloc ?_ _)); refine blk_put (cs := #[.int .i64 t394, .int .i64 t395, .int .i64 t396, .bool t397, .int .i64 t398, .string t399, .bool t400, .int .i64 t401, .string (⟨#[]⟩ : ByteArray)]) ?_ 8 _ rfl; (with_reducible repeat (first | refine blk_drewN ?_ _ | refine blk_drew ?_ | refine blk_alloc ?_ _)); refine blk_put (cs := #[.int .i64 t394, .int .i64 t395, .int .i64 t396, .bool t397, .int .i64 t398, .string t399, .bool t400, .int .i64 0, .string (⟨#[]⟩ : ByteArray)]) ?_ 7 _ rfl; (with_reducible repeat (first | refine blk_drewN ?_ _ | refine blk_drew ?_ | refine blk_alloc ?_ _)); refine blk_put (cs := #[.int .i64 t394, .int .i64 t395, .int .i64 t396, .bool t397, .int .i64 t398, .string t399, .bool false, .int .i64 0, .string (⟨#[]⟩ : ByteArray)]) ?_ 6 _ rfl; (with_reducible repeat (first | refine blk_drewN ?_ _ | refine blk_drew ?_ | refine blk_alloc ?_ _)); refine blk_put (cs := #[.int .i64 t394, .int .i64 t395, .int .i64 t396, .bool t397, .int .i64 t398, .string (⟨#[]⟩ : ByteArray), .bool false, .int .i64 0, .string (⟨#[]⟩ : ByteArray)]) ?_ 5 _ rfl; (with_reducible repeat (first | refine blk_drewN ?_ _ | refine blk_drew ?_ | refine blk_alloc ?_ _)); refine blk_put (cs := #[.int .i64 t394, .int .i64 t395, .int .i64 t396, .bool t397, .int .i64 0, .string (⟨#[]⟩ : ByteArray), .bool false, .int .i64 0, .string (⟨#[]⟩ : ByteArray)]) ?_ 4 _ rfl; (with_reducible repeat (first | refine blk_drewN ?_ _ | refine blk_drew ?_ | refine blk_alloc ?_ _)); refine blk_put (cs := #[.int .i64 t394, .int .i64 t395, .int .i64 t396, .bool false, .int .i64 0, .string (⟨#[]⟩ : ByteArray), .bool false, .int .i64 0, .string (⟨#[]⟩ : ByteArray)]) ?_ 3 _ rfl; (with_reducible repeat (first | refine blk_drewN ?_ _ | refine blk_drew ?_ | refine blk_alloc ?_ _)); refine blk_put (cs := #[.int .i64 t394, .int .i64 t395, .int .i64 0, .bool false, .int .i64 0, .string (⟨#[]⟩ : ByteArray), .bool false, .int .i64 0, .string (⟨#[]⟩ : ByteArray)]) ?_ 2 _ rfl; (with_reducible repeat (first | refine blk_drewN ?_ _ | refine blk_drew ?_ | refine blk_alloc ?_ _)); refine blk_put (cs := #[.int .i64 t394, .int .i64 0, .int .i64 0, .bool false, .int .i64 0, .string (⟨#[]⟩ : ByteArray), .bool false, .int .i64 0, .string (⟨#[]⟩ : ByteArray)]) ?_ 1 _ rfl; (with_reducible repeat (first | refine blk_drewN ?_ _ | refine blk_drew ?_ | refine blk_alloc ?_ _)); refine blk_put (cs := #[.int .i64 0, .int .i64 0, .int .i64 0, .bool false, .int .i64 0, .string (⟨#[]⟩ : ByteArray), .bool false, .int .i64 0, .string (⟨#[]⟩ : ByteArray)]) ?_ 0 _ rfl; (with_reducible repeat (first | refine blk_drewN ?_ _ | refine blk_drew ?_ | refine blk_alloc ?_ _)); exact BK404.out⟩, ⟨by repeat (first | (with_reducible first | exact HB.out | apply below_alloc | apply pw_below_drewN | apply below_drew1 | refine below_set ?_ GE362.out | refine below_set ?_ GE377.out | refine below_set ?_ GE392.out | refine below_set ?_ GE404.out) | exact HB.out)⟩⟩
                              case rest =>
                                clear HC41
                                try clear c1
                                try clear c2
                                try clear p2
                                try clear c3
                                try clear p3
                                try clear q3
                                try clear hx3
                                try clear c4
                                try clear c5
                                try clear c6
                                try clear p6
                                try clear c7
                                try clear c11
                                try clear c11b0
                                try clear c12
                                try clear c12b0
                                try clear c13
                                try clear c13b0
                                try clear c14
                                try clear c21
                                try clear c23
                                try clear c23b0
                                try clear c24
                                try clear c27
                                try clear c28
                                try clear c29
                                try clear c30
                                try clear c32
                                try clear c34
                                try clear c34b0
                                try clear c35
                                try clear c35b0
                                try clear c35b1
                                try clear c36
                                try clear p36
                                try clear q36
                                try clear hx36
                                try clear c38
                                try clear c38b0
                                try clear c39
                                try clear c39b0
                                try clear p39
                                try clear q39
                                try clear hx39
                                try clear c45
                                try clear c46
                                try clear c50
                                try clear c51
                                try clear c52
                                try clear c54
                                try clear c54b0
                                try clear c55
                                try clear c56
                                try clear c57
                                try clear c59
                                try clear c60
                                try clear c62
                                try clear c62b0
                                try clear c62b1
                                try clear c63
                                try clear c64
                                try clear c65
                                try clear c67
                                try clear c68
                                try clear c70
                                try clear c71
                                try clear c72
                                try clear c74
                                try clear c75
                                try clear hcz10_0
                                try clear hcz10_1
                                try clear hcz10_2
                                try clear hcz10_3
                                try clear hcz10_4
                                try clear hcz10_5
                                try clear hcz10_6
                                try clear hcz10_7
                                try clear hcz10_8
                                try clear hcz22_0
                                try clear hcz22_1
                                try clear hcz22_2
                                try clear hcz22_3
                                try clear hcz22_4
                                try clear hcz22_5
                                try clear hcz22_6
                                try clear hcz22_7
                                try clear hcz22_8
                                try clear hcz25_0
                                try clear hcz25_1
                                try clear hcz25_2
                                try clear hcz25_3
                                try clear hcz25_4
                                try clear hcz25_5
                                try clear hcz25_6
                                try clear hcz25_7
                                try clear hcz25_8
                                try clear hcz26_0
                                try clear hcz26_1
                                try clear hcz26_2
                                try clear hcz26_3
                                try clear hcz26_4
                                try clear hcz26_5
                                try clear hcz26_6
                                try clear hcz26_7
                                try clear hcz26_8
                                try clear hcz28_0
                                try clear hcz28_1
                                try clear hcz28_2
                                try clear hcz28_3
                                try clear hcz28_4
                                try clear hcz28_5
                                try clear hcz28_6
                                try clear hcz28_7
                                try clear hcz28_8
                                try clear hcz29_0
                                try clear hcz29_1
                                try clear hcz29_2
                                try clear hcz29_3
                                try clear hcz29_4
                                try clear hcz29_5
                                try clear hcz29_6
                                try clear hcz29_7
                                try clear hcz29_8
                                try clear hcz47_0
                                try clear hcz47_1
                                try clear hcz47_2
                                try clear hcz47_3
                                try clear hcz47_4
                                try clear hcz47_5
                                try clear hcz47_6
                                try clear hcz47_7
                                try clear hcz47_8
                                try clear hcz53_0
                                try clear hcz53_1
                                try clear hcz53_2
                                try clear hcz53_3
                                try clear hcz53_4
                                try clear hcz53_5
                                try clear hcz53_6
                                try clear hcz53_7
                                try clear hcz53_8
                                try clear hcz58_0
                                try clear hcz58_1
                                try clear hcz58_2
                                try clear hcz58_3
                                try clear hcz58_4
                                try clear hcz58_5
                                try clear hcz58_6
                                try clear hcz58_7
                                try clear hcz58_8
                                try clear hcz61_0
                                try clear hcz61_1
                                try clear hcz61_2
                                try clear hcz61_3
                                try clear hcz61_4
                                try clear hcz61_5
                                try clear hcz61_6
                                try clear hcz61_7
                                try clear hcz61_8
                                try clear hcz66_0
                                try clear hcz66_1
                                try clear hcz66_2
                                try clear hcz66_3
                                try clear hcz66_4
                                try clear hcz66_5
                                try clear hcz66_6
                                try clear hcz66_7
                                try clear hcz66_8
                                try clear hcz69_0
                                try clear hcz69_1
                                try clear hcz69_2
                                try clear hcz69_3
                                try clear hcz69_4
                                try clear hcz69_5
                                try clear hcz69_6
                                try clear hcz69_7
                                try clear hcz69_8
                                try clear hcz73_0
                                try clear hcz73_1
                                try clear hcz73_2
                                try clear hcz73_3
                                try clear hcz73_4
                                try clear hcz73_5
                                try clear hcz73_6
                                try clear hcz73_7
                                try clear hcz73_8
                                try clear hcz76_0
                                try clear hcz76_1
                                try clear hcz76_2
                                try clear hcz76_3
                                try clear hcz76_4
                                try clear hcz76_5
                                try clear hcz76_6
                                try clear hcz76_7
                                try clear hcz76_8
                                try clear hfz10_0
                                try clear hfz10_1
                                try clear hfz10_2
                                try clear hfz10_3
                                try clear hfz10_4
                                try clear hfz10_5
                                try clear hfz10_6
                                try clear hfz10_7
                                try clear hfz10_8
                                try clear hfz22_0
                                try clear hfz22_1
                                try clear hfz22_2
                                try clear hfz22_3
                                try clear hfz22_4
                                try clear hfz22_5
                                try clear hfz22_6
                                try clear hfz22_7
                                try clear hfz22_8
                                try clear hfz25_0
                                try clear hfz25_1
                                try clear hfz25_2
                                try clear hfz25_3
                                try clear hfz25_4
                                try clear hfz25_5
                                try clear hfz25_6
                                try clear hfz25_7
                                try clear hfz25_8
                                try clear hfz26_0
                                try clear hfz26_1
                                try clear hfz26_2
                                try clear hfz26_3
                                try clear hfz26_4
                                try clear hfz26_5
                                try clear hfz26_6
                                try clear hfz26_7
                                try clear hfz26_8
                                try clear hfz28_0
                                try clear hfz28_1
                                try clear hfz28_2
                                try clear hfz28_3
                                try clear hfz28_4
                                try clear hfz28_5
                                try clear hfz28_6
                                try clear hfz28_7
                                try clear hfz28_8
                                try clear hfz29_0
                                try clear hfz29_1
                                try clear hfz29_2
                                try clear hfz29_3
                                try clear hfz29_4
                                try clear hfz29_5
                                try clear hfz29_6
                                try clear hfz29_7
                                try clear hfz29_8
                                try clear hfz47_0
                                try clear hfz47_1
                                try clear hfz47_2
                                try clear hfz47_3
                                try clear hfz47_4
                                try clear hfz47_5
                                try clear hfz47_6
                                try clear hfz47_7
                                try clear hfz47_8
                                try clear hfz53_0
                                try clear hfz53_1
                                try clear hfz53_2
                                try clear hfz53_3
                                try clear hfz53_4
                                try clear hfz53_5
                                try clear hfz53_6
                                try clear hfz53_7
                                try clear hfz53_8
                                try clear hfz58_0
                                try clear hfz58_1
                                try clear hfz58_2
                                try clear hfz58_3
                                try clear hfz58_4
                                try clear hfz58_5
                                try clear hfz58_6
                                try clear hfz58_7
                                try clear hfz58_8
                                try clear hfz61_0
                                try clear hfz61_1
                                try clear hfz61_2
                                try clear hfz61_3
                                try clear hfz61_4
                                try clear hfz61_5
                                try clear hfz61_6
                                try clear hfz61_7
                                try clear hfz61_8
                                try clear hfz66_0
                                try clear hfz66_1
                                try clear hfz66_2
                                try clear hfz66_3
                                try clear hfz66_4
                                try clear hfz66_5
                                try clear hfz66_6
                                try clear hfz66_7
                                try clear hfz66_8
                                try clear hfz69_0
                                try clear hfz69_1
                                try clear hfz69_2
                                try clear hfz69_3
                                try clear hfz69_4
                                try clear hfz69_5
                                try clear hfz69_6
                                try clear hfz69_7
                                try clear hfz69_8
                                try clear hfz73_0
                                try clear hfz73_1
                                try clear hfz73_2
                                try clear hfz73_3
                                try clear hfz73_4
                                try clear hfz73_5
                                try clear hfz73_6
                                try clear hfz73_7
                                try clear hfz73_8
                                try clear hfz76_0
                                try clear hfz76_1
                                try clear hfz76_2
                                try clear hfz76_3
                                try clear hfz76_4
                                try clear hfz76_5
                                try clear hfz76_6
                                try clear hfz76_7
                                try clear hfz76_8
                                try clear hx363_0
                                try clear hx393_0
                                try clear p2
                                try clear p3
                                try clear p363
                                try clear p393
                                try clear p6
                                try clear q3
                                try clear q363
                                try clear q393
                                obtain ⟨kq, x102_40, rfl, HA, HJ40, HO_0, HO_13, BK362, BK377, BK392, BK404, HB⟩ := hcut
                                cases kq with
                                | zero => exact absurd HA.out (by simp [tithebarnlaw18_SumsOrder.j4])
                                | succ kj40 =>
                                  have H := HA.out
                                  clear HA
                                  simp only [tithebarnlaw18_SumsOrder.j4] at H
                                  by_cases c77 : x102_40 = true
                                  · subst c77
                                    have H1 : (some false) = some r := by rw [if_pos rfl] at H; exact H
                                    clear H
                                    have H := H1
                                    clear H1
                                    obtain rfl := Option.some.inj H
                                    go_wp2
                                    go_ret
                                    exact ⟨by first | rfl | (simp [errW_none, errW_some] <;> rfl) | (simp [*, errW_none, errW_some] <;> rfl), by repeat (first | (with_reducible first | exact HB.out | apply below_alloc | apply pw_below_drewN | apply below_drew1 | refine below_set ?_ GE362.out | refine below_set ?_ GE377.out | refine below_set ?_ GE392.out | refine below_set ?_ GE404.out) | exact HB.out)⟩
                                  · replace c77 := Bool.eq_false_iff.mpr c77
                                    subst c77
                                    have H1 : (tithebarnlaw18_SumsOrder.l1 kj40 l0 l2 t378 t379 (wrap64 (x15_3 + 1))) = some r := by rw [if_neg (show ¬ (false = true) by decide)] at H; exact H
                                    clear H
                                    have H := H1
                                    clear H1
                                    have H' := Aside0.mk H
                                    clear H
                                    go_wp2
                                    go_roundg kj40
                                    case measure => have := HK1.out; have := HJ16.out; have := HK3.out; have := HJ32.out; have := HJ40.out; omega
                                    case rel => exact ⟨(wrap64 (x15_3 + 1)), (by first | rfl | (simp; done) | (simp [*]; done)), H', ⟨by have := HK1.out; have := HJ16.out; have := HK3.out; have := HJ32.out; have := HJ40.out; omega⟩, ⟨by (with_reducible repeat (first | apply Kd.V_alloc | apply Kd.V_drewN | apply Kd.V_drew)); exact Kd.V_mono HO_0.out (fun _ hk => ⟨hk.1, ⟨hk.2.1, ⟨hk.2.2.1, hk.2.2.2.1⟩⟩⟩)⟩, ⟨by (with_reducible repeat (first | apply Kd.N_alloc | apply Kd.N_drewN | apply Kd.N_drew)); exact Kd.N_mono HO_13.out (fun _ hk => ⟨hk.1, ⟨hk.2.1, hk.2.2.1⟩⟩)⟩, ⟨by (with_reducible repeat (first | refine blk_drewN ?_ _ | refine blk_drew ?_ | refine blk_alloc ?_ _)); exact BK362.out⟩, ⟨by (with_reducible repeat (first | refine blk_drewN ?_ _ | refine blk_drew ?_ | refine blk_alloc ?_ _)); exact BK377.out⟩, ⟨by repeat (first | (with_reducible first | exact HB.out | apply below_alloc | apply pw_below_drewN | apply below_drew1 | refine below_set ?_ GE362.out | refine below_set ?_ GE377.out | refine below_set ?_ GE392.out | refine below_set ?_ GE404.out) | exact HB.out)⟩⟩
                            · rw [if_neg c39] at H
                              exact absurd H (by simp)
                          · rw [if_neg c38] at H
                            exact absurd H (by simp)
                        · replace c36 := Bool.eq_false_iff.mpr c36
                          subst c36
                          have H1 : (some true) = some r := by rw [if_neg (show ¬ (false = true) by decide)] at H; exact H
                          clear H
                          have H := H1
                          clear H1
                          obtain rfl := Option.some.inj H
                          go_wp2
                          go_ret
                          exact ⟨by first | rfl | (simp [errW_none, errW_some] <;> rfl) | (simp [*, errW_none, errW_some] <;> rfl), by repeat (first | (with_reducible first | exact HB.out | apply below_alloc | apply pw_below_drewN | apply below_drew1 | refine below_set ?_ GE362.out | refine below_set ?_ GE377.out) | exact HB.out)⟩
  · replace c5 := Bool.eq_false_iff.mpr c5
    subst c5
    have H1 : (some false) = some r := by rw [if_neg (show ¬ (false = true) by decide)] at H; exact H
    clear H
    have H := H1
    clear H1
    obtain rfl := Option.some.inj H
    go_enter Try.func12, Try.ntmps12
    go_wp2_with (first | ((with_reducible refine gate_callee (f := 28) rfl ?_); refine goesL_ (some 20) rfl rfl Try.func28 (by kernel_rfl) rfl #[] rfl (by (try simp only [List.map_toArray, List.map_cons, List.map_nil]); first | done | rfl | (simp only [List.length_drop, List.length_take]; rfl)) ?_; (with_reducible refine (tithebarnlaw18_lives_c.calls  false _ A4.out).mono ?_); rintro e w78 ⟨rfl, hb⟩; refine ⟨_, rfl, ?_⟩; have n0_ := Aside0.mk (Kd.V_below (by (with_reducible repeat (first | apply Kd.V_alloc | apply Kd.V_drewN | apply Kd.V_drew)); exact HO0.out) hb); have n1_ := Aside0.mk (below_step (by repeat (first | (with_reducible first | exact HB.out | apply below_alloc | apply pw_below_drewN | apply below_drew1) | exact HB.out)) hb); clear HO0; clear HB; have HO0 := n0_; have HB := n1_; clear n0_ n1_; (try clear hb); (try clear hb2); (try clear hk); (try clear hi)))
    go_ret
    exact ⟨by first | rfl | (simp [errW_none, errW_some] <;> rfl) | (simp [*, errW_none, errW_some] <;> rfl), by repeat (first | (with_reducible first | exact HB.out | apply below_alloc | apply pw_below_drewN | apply below_drew1) | exact HB.out)⟩

end Go.Proofs.Ytknkncidlfobiaa.Pr
