-- printed by xprint.py (this seat's own program, over the kit's print.py); not trusted: Lean checks it
import Derived.Test.YthlelhndmnkmjaaPr0
import Derived.Test.YthlelhndmnkmjaaPrf26
import Derived.Test.YthlelhndmnkmjaaPrf24
import Derived.Test.YthlelhndmnkmjaaPrf27
import Derived.Test.YthlelhndmnkmjaaPrf29
import Derived.Test.YthlelhndmnkmjaaPrf35
namespace Go.Proofs.Ythlelhndmnkmjaa.Pr
open Go.RowKit Go.Proofs.YthlelhndmnkmjaaW.PrintWords Go.Proofs.YthlelhndmnkmjaaW.PrintLast Go.Proofs.YthlelhndmnkmjaaW.PrintMore
attribute [local go_sem] max2_int min2_int max_two min_two max_three min_three max_four min_four   -- for this text's walks alone
set_option linter.unusedVariables false
set_option linter.unusedSimpArgs false

/-! ### tithebarnlaw24_GroupsParts: function 12 -/
def tithebarnlaw24_GroupsParts.j0 : Nat → List (S49) → List (S49) → List (S49) → Int → Bool → Option (Bool)
 | 0, _, _, _, _, _ => none
 | k + 1, x7, x9, x11, x12, x56 => if x56 = true then (if x12 = 7 then (some ((x11.length : Int) == 0)) else (some false)) else ((groups_Join.f k x7 x9).bind fun bt432 => (if x12 = 0 then (if bt432.2 = 0 then ((tithebarnref24_Same.f k bt432.1 x11).bind fun t436 => (some t436)) else (some false)) else (some false)))
def tithebarnlaw24_GroupsParts.f (k : Nat) (l0 : List (List (S37))) (l1 : List (List (S37))) (a2_0 : Int) (a2_1 : Int) : Option (Bool) := (tithebarnlaw24_lives.f k).bind fun t407 => (if t407 = true then ((tithebarnlaw24_early.f l0).bind fun t408 => ((tithebarnlaw24_early.f l1).bind fun t411 => ((groups_By.f k t408 a2_0 a2_1).bind fun bt414 => ((groups_By.f k t411 a2_0 a2_1).bind fun bt418 => (if ([] : List (List (S37))).length + t408.length < 5864062014805 then ((some (([] : List (List (S37))) ++ t408 : List (List (S37)))).bind fun y422 => (if y422.length + t411.length < 5864062014805 then ((groups_By.f k (y422 ++ t411) a2_0 a2_1).bind fun bt428 => (if bt414.2 = 0 then (tithebarnlaw24_GroupsParts.j0 k bt414.1 bt418.1 bt428.1 bt428.2 (bt418.2 != 0)) else (tithebarnlaw24_GroupsParts.j0 k bt414.1 bt418.1 bt428.1 bt428.2 true))) else (none))) else (none)))))) else (some false))
theorem tithebarnlaw24_GroupsParts.mono_l : ∀ k, (∀ y0 y1 y2 y3 y4, LeO (tithebarnlaw24_GroupsParts.j0 k y0 y1 y2 y3 y4) (tithebarnlaw24_GroupsParts.j0 (k + 1) y0 y1 y2 y3 y4))
 | 0 => fun _ _ _ _ _ r h => by simp [tithebarnlaw24_GroupsParts.j0] at h
 | k + 1 => by
  have ih0 := tithebarnlaw24_GroupsParts.mono_l k
  ·intro y0 y1 y2 y3 y4
   unfold tithebarnlaw24_GroupsParts.j0
   repeat' first
   | (with_reducible exact ih0 _ _ _ _ _)
   | (with_reducible exact groups_By.mono _ _ _ _)
   | (with_reducible exact groups_Join.mono _ _ _)
   | (with_reducible exact tithebarnlaw24_lives.mono _)
   | (with_reducible exact tithebarnref24_Same.mono _ _ _)
   | (with_reducible exact LeO.refl _)
   | (with_reducible exact LeO.none _)
   | (with_reducible refine LeO.ite ?_ ?_)
   | (with_reducible refine LeO.bind ?_ (fun _ => ?_))
   | exact ih0 _ _ _ _ _
   | exact groups_By.mono _ _ _ _
   | exact groups_Join.mono _ _ _
   | exact tithebarnlaw24_lives.mono _
   | exact tithebarnref24_Same.mono _ _ _
   | exact LeO.none _
   | refine LeO.ite ?_ ?_
   | refine LeO.bind ?_ (fun _ => ?_)
theorem tithebarnlaw24_GroupsParts.mono : ∀ a0 a1 a2 a3 k, LeO (tithebarnlaw24_GroupsParts.f k a0 a1 a2 a3) (tithebarnlaw24_GroupsParts.f (k + 1) a0 a1 a2 a3) := by
 intro a0 a1 a2 a3 k
 have ih0 := tithebarnlaw24_GroupsParts.mono_l k
 unfold tithebarnlaw24_GroupsParts.f
 repeat' first
   | (with_reducible exact ih0 _ _ _ _ _)
   | (with_reducible exact groups_By.mono _ _ _ _)
   | (with_reducible exact groups_Join.mono _ _ _)
   | (with_reducible exact tithebarnlaw24_lives.mono _)
   | (with_reducible exact tithebarnref24_Same.mono _ _ _)
   | (with_reducible exact LeO.refl _)
   | (with_reducible exact LeO.none _)
   | (with_reducible refine LeO.ite ?_ ?_)
   | (with_reducible refine LeO.bind ?_ (fun _ => ?_))
   | exact ih0 _ _ _ _ _
   | exact groups_By.mono _ _ _ _
   | exact groups_Join.mono _ _ _
   | exact tithebarnlaw24_lives.mono _
   | exact tithebarnref24_Same.mono _ _ _
   | exact LeO.none _
   | refine LeO.ite ?_ ?_
   | refine LeO.bind ?_ (fun _ => ?_)
def tithebarnlaw24_GroupsParts.T6 : Bool × List (List Nat × List Nat) := (true, [([], []), ([0], [0]), ([], []), ([1, 2, 1], [1, 2]), ([], []), ([4], [4]), ([], []), ([6], [6]), ([3, 5, 7, 3], [3, 5, 7]), ([8], [8]), ([9], [9]), ([9], [9]), ([10, 8, 0, 1, 2, 3, 4, 5, 6, 7, 8, 9, 10], [10]), ([11, 12, 0, 1, 2, 3, 4, 5, 6, 7, 8, 9, 10, 11, 12], [11])])
def tithebarnlaw24_GroupsParts.B6 : List Nat := [0, 1, 0, 7, 0, 16, 0, 64, 255, 511, 1023, 1023, 2047, 8191]
theorem tithebarnlaw24_GroupsParts.tab6 : rtab .any (opsOf Try.f12 6) = tithebarnlaw24_GroupsParts.T6 := by kernel_rfl
theorem tithebarnlaw24_GroupsParts.bits6 : waitsOk tithebarnlaw24_GroupsParts.T6.2 tithebarnlaw24_GroupsParts.B6 = true := by kernel_rfl
set_option maxHeartbeats 8000000 in
set_option maxRecDepth 100000 in
theorem tithebarnlaw24_GroupsParts.calls (k : Nat) (A0 : Option Addr) (c0 : Nat) (l0 : List (List (S37))) (A1 : Option Addr) (c1 : Nat) (l1 : List (List (S37))) (a2_0 : Int) (a2_1 : Int) (r : Bool) (w : World) (hr0 : Kd.C (Kd.slice 37 k37) w A0 l0.length l0) (hc0 : l0.length ≤ c0) (hr1 : Kd.C (Kd.slice 37 k37) w A1 l1.length l1) (hc1 : l1.length ≤ c1) (h : tithebarnlaw24_GroupsParts.f k l0 l1 a2_0 a2_1 = some r) :
  Calls Try.prog 12 #[.slice A0 l0.length c0, .slice A1 l1.length c1, .agg #[.int .i64 a2_0, .int .i64 a2_1]] w fun e w' => e = .returned (.bool r) ∧ Below w.heap.size w w' := by
 have hu62 := Try.underlying62
 have HR0 := Aside0.mk hr0
 have HC0 := Aside0.mk hc0
 clear hr0 hc0
 have HR1 := Aside0.mk hr1
 have HC1 := Aside0.mk hc1
 clear hr1 hc1
 have HB := Aside0.mk (Below.refl w.heap.size w)
 have H : ((tithebarnlaw24_lives.f k).bind fun t407 => (if t407 = true then ((tithebarnlaw24_early.f l0).bind fun t408 => ((tithebarnlaw24_early.f l1).bind fun t411 => ((groups_By.f k t408 a2_0 a2_1).bind fun bt414 => ((groups_By.f k t411 a2_0 a2_1).bind fun bt418 => (if ([] : List (List (S37))).length + t408.length < 5864062014805 then ((some (([] : List (List (S37))) ++ t408 : List (List (S37)))).bind fun y422 => (if y422.length + t411.length < 5864062014805 then ((groups_By.f k (y422 ++ t411) a2_0 a2_1).bind fun bt428 => (if bt414.2 = 0 then (tithebarnlaw24_GroupsParts.j0 k bt414.1 bt418.1 bt428.1 bt428.2 (bt418.2 != 0)) else (tithebarnlaw24_GroupsParts.j0 k bt414.1 bt418.1 bt428.1 bt428.2 true))) else (none))) else (none)))))) else (some false))) = some r := h
 clear h
 replace H := Option.bind_eq_some_iff.mp H
 obtain ⟨t407, A40, H⟩ := H
 replace H : (if t407 = true then ((tithebarnlaw24_early.f l0).bind fun t408 => ((tithebarnlaw24_early.f l1).bind fun t411 => ((groups_By.f k t408 a2_0 a2_1).bind fun bt414 => ((groups_By.f k t411 a2_0 a2_1).bind fun bt418 => (if ([] : List (List (S37))).length + t408.length < 5864062014805 then ((some (([] : List (List (S37))) ++ t408 : List (List (S37)))).bind fun y422 => (if y422.length + t411.length < 5864062014805 then ((groups_By.f k (y422 ++ t411) a2_0 a2_1).bind fun bt428 => (if bt414.2 = 0 then (tithebarnlaw24_GroupsParts.j0 k bt414.1 bt418.1 bt428.1 bt428.2 (bt418.2 != 0)) else (tithebarnlaw24_GroupsParts.j0 k bt414.1 bt418.1 bt428.1 bt428.2 true))) else (none))) else (none)))))) else (some false)) = some r := H
 have A4 := Aside0.mk A40
 clear A40
 by_cases c5 : t407 = true
 ·subst c5
  have H1 : ((tithebarnlaw24_early.f l0).bind fun t408 => ((tithebarnlaw24_early.f l1).bind fun t411 => ((groups_By.f k t408 a2_0 a2_1).bind fun bt414 => ((groups_By.f k t411 a2_0 a2_1).bind fun bt418 => (if ([] : List (List (S37))).length + t408.length < 5864062014805 then ((some (([] : List (List (S37))) ++ t408 : List (List (S37)))).bind fun y422 => (if y422.length + t411.length < 5864062014805 then ((groups_By.f k (y422 ++ t411) a2_0 a2_1).bind fun bt428 => (if bt414.2 = 0 then (tithebarnlaw24_GroupsParts.j0 k bt414.1 bt418.1 bt428.1 bt428.2 (bt418.2 != 0)) else (tithebarnlaw24_GroupsParts.j0 k bt414.1 bt418.1 bt428.1 bt428.2 true))) else (none))) else (none)))))) = some r := by rw [if_pos rfl] at H; exact H
  clear H
  have H := H1
  clear H1
  replace H := Option.bind_eq_some_iff.mp H
  obtain ⟨t408, A60, H⟩ := H
  replace H : ((tithebarnlaw24_early.f l1).bind fun t411 => ((groups_By.f k t408 a2_0 a2_1).bind fun bt414 => ((groups_By.f k t411 a2_0 a2_1).bind fun bt418 => (if ([] : List (List (S37))).length + t408.length < 5864062014805 then ((some (([] : List (List (S37))) ++ t408 : List (List (S37)))).bind fun y422 => (if y422.length + t411.length < 5864062014805 then ((groups_By.f k (y422 ++ t411) a2_0 a2_1).bind fun bt428 => (if bt414.2 = 0 then (tithebarnlaw24_GroupsParts.j0 k bt414.1 bt418.1 bt428.1 bt428.2 (bt418.2 != 0)) else (tithebarnlaw24_GroupsParts.j0 k bt414.1 bt418.1 bt428.1 bt428.2 true))) else (none))) else (none))))) = some r := H
  have A6 := Aside0.mk A60
  clear A60
  replace H := Option.bind_eq_some_iff.mp H
  obtain ⟨t411, A70, H⟩ := H
  replace H : ((groups_By.f k t408 a2_0 a2_1).bind fun bt414 => ((groups_By.f k t411 a2_0 a2_1).bind fun bt418 => (if ([] : List (List (S37))).length + t408.length < 5864062014805 then ((some (([] : List (List (S37))) ++ t408 : List (List (S37)))).bind fun y422 => (if y422.length + t411.length < 5864062014805 then ((groups_By.f k (y422 ++ t411) a2_0 a2_1).bind fun bt428 => (if bt414.2 = 0 then (tithebarnlaw24_GroupsParts.j0 k bt414.1 bt418.1 bt428.1 bt428.2 (bt418.2 != 0)) else (tithebarnlaw24_GroupsParts.j0 k bt414.1 bt418.1 bt428.1 bt428.2 true))) else (none))) else (none)))) = some r := H
  have A7 := Aside0.mk A70
  clear A70
  replace H := Option.bind_eq_some_iff.mp H
  obtain ⟨⟨t414, t417⟩, A80, H⟩ := H
  replace H : ((groups_By.f k t411 a2_0 a2_1).bind fun bt418 => (if ([] : List (List (S37))).length + t408.length < 5864062014805 then ((some (([] : List (List (S37))) ++ t408 : List (List (S37)))).bind fun y422 => (if y422.length + t411.length < 5864062014805 then ((groups_By.f k (y422 ++ t411) a2_0 a2_1).bind fun bt428 => (if t417 = 0 then (tithebarnlaw24_GroupsParts.j0 k t414 bt418.1 bt428.1 bt428.2 (bt418.2 != 0)) else (tithebarnlaw24_GroupsParts.j0 k t414 bt418.1 bt428.1 bt428.2 true))) else (none))) else (none))) = some r := H
  have A8 := Aside0.mk A80
  clear A80
  replace H := Option.bind_eq_some_iff.mp H
  obtain ⟨⟨t418, t421⟩, A90, H⟩ := H
  replace H : (if ([] : List (List (S37))).length + t408.length < 5864062014805 then ((some (([] : List (List (S37))) ++ t408 : List (List (S37)))).bind fun y422 => (if y422.length + t411.length < 5864062014805 then ((groups_By.f k (y422 ++ t411) a2_0 a2_1).bind fun bt428 => (if t417 = 0 then (tithebarnlaw24_GroupsParts.j0 k t414 t418 bt428.1 bt428.2 (t421 != 0)) else (tithebarnlaw24_GroupsParts.j0 k t414 t418 bt428.1 bt428.2 true))) else (none))) else (none)) = some r := H
  have A9 := Aside0.mk A90
  clear A90
  by_cases c10 : ([] : List (List (S37))).length + t408.length < 5864062014805
  ·rw [if_pos c10] at H
   have LMc10 := Aside0.mk c10
   clear c10
   obtain ⟨y422, hy422⟩ : ∃ y_ : List (List (S37)), y_ = (([] : List (List (S37))) ++ t408) := ⟨_, rfl⟩
   replace H : (if y422.length + t411.length < 5864062014805 then ((groups_By.f k (y422 ++ t411) a2_0 a2_1).bind fun bt428 => (if t417 = 0 then (tithebarnlaw24_GroupsParts.j0 k t414 t418 bt428.1 bt428.2 (t421 != 0)) else (tithebarnlaw24_GroupsParts.j0 k t414 t418 bt428.1 bt428.2 true))) else (none)) = some r := by first | (rw [hy422]; with_reducible exact H) | (have H2_ := (Option.bind_some _ _).symm.trans H; rw [hy422]; with_reducible exact H2_) | (have H2_ := (Option.bind_some _ _).symm.trans H; with_reducible exact H2_) | with_reducible exact H | (rw [hy422]; exact H) | exact H
   have Ny422 := Aside0.mk hy422
   clear hy422
   by_cases c11 : y422.length + t411.length < 5864062014805
   ·rw [if_pos c11] at H
    have LMc11 := Aside0.mk c11
    clear c11
    obtain ⟨y425, hy425⟩ : ∃ y_ : List (List (S37)), y_ = (y422 ++ t411) := ⟨_, rfl⟩
    replace H : ((groups_By.f k y425 a2_0 a2_1).bind fun bt428 => (if t417 = 0 then (tithebarnlaw24_GroupsParts.j0 k t414 t418 bt428.1 bt428.2 (t421 != 0)) else (tithebarnlaw24_GroupsParts.j0 k t414 t418 bt428.1 bt428.2 true))) = some r := by first | (rw [hy425]; with_reducible exact H) | (have H2_ := (Option.bind_some _ _).symm.trans H; rw [hy425]; with_reducible exact H2_) | (have H2_ := (Option.bind_some _ _).symm.trans H; with_reducible exact H2_) | with_reducible exact H | (rw [hy425]; exact H) | exact H
    have Ny425 := Aside0.mk hy425
    clear hy425
    replace H := Option.bind_eq_some_iff.mp H
    obtain ⟨⟨t428, t431⟩, A120, H⟩ := H
    replace H : (if t417 = 0 then (tithebarnlaw24_GroupsParts.j0 k t414 t418 t428 t431 (t421 != 0)) else (tithebarnlaw24_GroupsParts.j0 k t414 t418 t428 t431 true)) = some r := H
    have A12 := Aside0.mk A120
    clear A120
    have HC13 := Aside0.mk H
    clear H
    go_enter Try.func12, Try.ntmps12
    try go_wp2_with (first | ((with_reducible refine gate_dst (N := 5) rfl ?_); (try (refine gate_guard (by rfl) ?_; dsimp only)); refine box_event ?hg (N := 5) ?hd (cs := #[.int .i64 a2_0, .int .i64 a2_1]) (t := 62) ?hr ?_; (case hd => rfl); (case hg => rfl); (case hr => first | (go_simp; done) | (go_simp; rfl)); intro gb406 hg w14 hbox hb; have n0_ := Aside0.mk (below_step (by repeat (first | (with_reducible first | exact HB.out | apply below_alloc | apply pw_below_drewN | apply below_drew1) | exact HB.out)) hb); have n1_ := Aside0.mk (hbox); have n2_ := Aside0.mk ((by rw [hg]; exact (below_size (by repeat (first | (with_reducible first | exact HB.out | apply below_alloc | apply pw_below_drewN | apply below_drew1) | exact HB.out))) : w.heap.size ≤ gb406)); have n3_ := Aside0.mk ((by rw [hg]; exact (below_size (by repeat (first | (with_reducible first | exact HB.out | apply below_alloc | apply pw_below_drewN | apply below_drew1) | exact HB.out))) : w.heap.size ≤ gb406)); clear HB; have HB := n0_; have BK406 := n1_; have GW406 := n2_; have GE406 := n3_; clear n0_ n1_ n2_ n3_; clear hb hbox hg) | ((with_reducible refine gate_callee (f := 24) rfl ?_); refine goesL_ (some 15) rfl rfl Try.func24 (by kernel_rfl) rfl #[] rfl (by (try simp only [List.map_toArray, List.map_cons, List.map_nil]); first | done | rfl | (simp only [List.length_drop, List.length_take]; rfl)) ?_; (with_reducible refine (tithebarnlaw24_lives.calls k  true _ A4.out).mono ?_); rintro e w15 ⟨rfl, hb⟩; refine ⟨_, rfl, ?_⟩; have n0_ := Aside0.mk (blk_below (g := gb406) (o := .cells #[.int .i64 a2_0, .int .i64 a2_1] 62 (0, 0)) (by (with_reducible repeat (first | refine blk_drewN ?_ _ | refine blk_drew ?_ | refine blk_alloc ?_ _)); exact BK406.out) hb); have n1_ := Aside0.mk (below_step (by repeat (first | (with_reducible first | exact HB.out | apply below_alloc | apply pw_below_drewN | apply below_drew1 | refine below_set ?_ GE406.out) | exact HB.out)) hb); clear BK406; clear HB; have BK406 := n0_; have HB := n1_; clear n0_ n1_; (try clear hb); (try clear hb2); (try clear hk); (try clear hi)) | ((with_reducible refine gate_callee (f := 27) rfl ?_); refine goesL_ (some 18) rfl rfl Try.func27 (by kernel_rfl) rfl #[.slice A0 l0.length c0] rfl (by (try simp only [List.map_toArray, List.map_cons, List.map_nil]); first | done | rfl | (simp only [List.length_drop, List.length_take]; rfl)) ?_; (with_reducible refine (tithebarnlaw24_early.calls (fun k_ => k_ < w.heap.size) _ _ l0 t408 _ ?side1 A6.out).mono ?_); (case side1 => exact Kd.V_mk HC0.out (Kd.F_below (Kd.C_F (Kd.heap_slice 37 k37_heap) HR0.out) (by repeat (first | (with_reducible first | exact HB.out | apply below_alloc | apply pw_below_drewN | apply below_drew1 | refine below_set ?_ GE406.out) | exact HB.out)))); rintro e w16 ⟨v409, rfl, ho0, hb⟩; refine ⟨_, rfl, ?_⟩; have n0_ := Aside0.mk (Kd.V_lower (Kd.V_mono (ok' := fun k_ => k_ ≠ gb406) ho0 (fun k_ hk_ => Or.elim hk_ (fun hs_ => fun e_ => Nat.not_le.2 hs_ (by rw [e_]; exact GW406.out)) (fun hn_ => (Kd.freshB (g := gb406) (o := .cells #[.int .i64 a2_0, .int .i64 a2_1] 62 (0, 0)) (by (with_reducible repeat (first | refine blk_drewN ?_ _ | refine blk_drew ?_ | refine blk_alloc ?_ _)); exact BK406.out) k_ hn_)))) (below_size (by repeat (first | (with_reducible first | exact HB.out | apply below_alloc | apply pw_below_drewN | apply below_drew1 | refine below_set ?_ GE406.out) | exact HB.out)))); have n1_ := Aside0.mk (blk_below (g := gb406) (o := .cells #[.int .i64 a2_0, .int .i64 a2_1] 62 (0, 0)) (by (with_reducible repeat (first | refine blk_drewN ?_ _ | refine blk_drew ?_ | refine blk_alloc ?_ _)); exact BK406.out) hb); have n2_ := Aside0.mk (below_step (by repeat (first | (with_reducible first | exact HB.out | apply below_alloc | apply pw_below_drewN | apply below_drew1 | refine below_set ?_ GE406.out) | exact HB.out)) hb); clear BK406; clear HB; have HO410 := n0_; have BK406 := n1_; have HB := n2_; clear n0_ n1_ n2_; (try clear hb); (try clear hb2); (try clear hk); (try clear hi); (try clear ho0)) | ((with_reducible refine gate_callee (f := 27) rfl ?_); refine goesL_ (some 20) rfl rfl Try.func27 (by kernel_rfl) rfl #[.slice A1 l1.length c1] rfl (by (try simp only [List.map_toArray, List.map_cons, List.map_nil]); first | done | rfl | (simp only [List.length_drop, List.length_take]; rfl)) ?_; (with_reducible refine (tithebarnlaw24_early.calls (fun k_ => k_ < w.heap.size) _ _ l1 t411 _ ?side1 A7.out).mono ?_); (case side1 => exact Kd.V_mk HC1.out (Kd.F_below (Kd.C_F (Kd.heap_slice 37 k37_heap) HR1.out) (by repeat (first | (with_reducible first | exact HB.out | apply below_alloc | apply pw_below_drewN | apply below_drew1 | refine below_set ?_ GE406.out) | exact HB.out)))); rintro e w17 ⟨v412, rfl, ho0, hb⟩; refine ⟨_, rfl, ?_⟩; have n0_ := Aside0.mk (Kd.V_below (by (with_reducible repeat (first | apply Kd.V_alloc | apply Kd.V_drewN | apply Kd.V_drew)); exact HO410.out) hb); have n1_ := Aside0.mk (Kd.V_lower (Kd.V_mono (ok' := fun k_ => k_ ≠ gb406) ho0 (fun k_ hk_ => Or.elim hk_ (fun hs_ => fun e_ => Nat.not_le.2 hs_ (by rw [e_]; exact GW406.out)) (fun hn_ => (Kd.freshB (g := gb406) (o := .cells #[.int .i64 a2_0, .int .i64 a2_1] 62 (0, 0)) (by (with_reducible repeat (first | refine blk_drewN ?_ _ | refine blk_drew ?_ | refine blk_alloc ?_ _)); exact BK406.out) k_ hn_)))) (below_size (by repeat (first | (with_reducible first | exact HB.out | apply below_alloc | apply pw_below_drewN | apply below_drew1 | refine below_set ?_ GE406.out) | exact HB.out)))); have n2_ := Aside0.mk (blk_below (g := gb406) (o := .cells #[.int .i64 a2_0, .int .i64 a2_1] 62 (0, 0)) (by (with_reducible repeat (first | refine blk_drewN ?_ _ | refine blk_drew ?_ | refine blk_alloc ?_ _)); exact BK406.out) hb); have n3_ := Aside0.mk (below_step (by repeat (first | (with_reducible first | exact HB.out | apply below_alloc | apply pw_below_drewN | apply below_drew1 | refine below_set ?_ GE406.out) | exact HB.out)) hb); clear HO410; clear BK406; clear HB; have HO410 := n0_; have HO413 := n1_; have BK406 := n2_; have HB := n3_; clear n0_ n1_ n2_ n3_; (try clear hb); (try clear hb2); (try clear hk); (try clear hi); (try clear ho0); have hcz18_0 : w17.cell? ⟨gb406, 0, none⟩ = some (.int .i64 a2_0) := (blk_cell BK406.out 0).trans rfl; have hcz18_1 : w17.cell? ⟨gb406, 1, none⟩ = some (.int .i64 a2_1) := (blk_cell BK406.out 1).trans rfl; have hfz18_0 := blk_frozen BK406.out 0; have hfz18_1 := blk_frozen BK406.out 1; obtain ⟨Ao19, co19, eo19⟩ := Kd.V_slice HO410.out; subst eo19) | ((with_reducible refine gate_callee (f := 26) rfl ?_); refine goesL_ (some 27) rfl rfl Try.func26 (by kernel_rfl) rfl #[.slice Ao19 t408.length co19, .int .i64 a2_0, .int .i64 a2_1] rfl (by (try simp only [List.map_toArray, List.map_cons, List.map_nil]); first | done | rfl | (simp only [List.length_drop, List.length_take]; rfl)) ?_; (with_reducible refine (groups_By.calls k (fun k_ => k_ ≠ gb406) _ _ t408 a2_0 a2_1 t414 t417 _ ?side1 A8.out).mono ?_); (case side1 => exact HO410.out); rintro e w20 ⟨v415, rfl, ho0, hb⟩; refine ⟨_, rfl, ?_⟩; have n0_ := Aside0.mk (Kd.V_elder' (by (with_reducible repeat (first | apply Kd.V_alloc | apply Kd.V_drewN | apply Kd.V_drew)); exact HO410.out) (Kd.R_base ho0) hb); have n1_ := Aside0.mk (Kd.V_elder' (by (with_reducible repeat (first | apply Kd.V_alloc | apply Kd.V_drewN | apply Kd.V_drew)); exact HO413.out) (Kd.R_base ho0) hb); have n2_ := Aside0.mk (Kd.R_lower (Kd.R_mono (ok' := fun k_ => True) ho0 (fun _ hk_ => trivial)) (below_size (by repeat (first | (with_reducible first | exact HB.out | apply below_alloc | apply pw_below_drewN | apply below_drew1 | refine below_set ?_ GE406.out) | exact HB.out)))); have n3_ := Aside0.mk (blk_below (g := gb406) (o := .cells #[.int .i64 a2_0, .int .i64 a2_1] 62 (0, 0)) (by (with_reducible repeat (first | refine blk_drewN ?_ _ | refine blk_drew ?_ | refine blk_alloc ?_ _)); exact BK406.out) hb); have n4_ := Aside0.mk (below_step (by repeat (first | (with_reducible first | exact HB.out | apply below_alloc | apply pw_below_drewN | apply below_drew1 | refine below_set ?_ GE406.out) | exact HB.out)) hb); clear HO410; clear HO413; clear BK406; clear HB; have HO410 := n0_; have HO413 := n1_; have HO416 := n2_; have BK406 := n3_; have HB := n4_; clear n0_ n1_ n2_ n3_ n4_; (try clear hb); (try clear hb2); (try clear hk); (try clear hi); (try clear ho0); have hcz21_0 : w20.cell? ⟨gb406, 0, none⟩ = some (.int .i64 a2_0) := (blk_cell BK406.out 0).trans rfl; have hcz21_1 : w20.cell? ⟨gb406, 1, none⟩ = some (.int .i64 a2_1) := (blk_cell BK406.out 1).trans rfl; have hfz21_0 := blk_frozen BK406.out 0; have hfz21_1 := blk_frozen BK406.out 1; obtain ⟨Ao22, co22, eo22⟩ := Kd.V_slice HO413.out; subst eo22) | ((with_reducible refine gate_callee (f := 26) rfl ?_); refine goesL_ (some 36) rfl rfl Try.func26 (by kernel_rfl) rfl #[.slice Ao22 t411.length co22, .int .i64 a2_0, .int .i64 a2_1] rfl (by (try simp only [List.map_toArray, List.map_cons, List.map_nil]); first | done | rfl | (simp only [List.length_drop, List.length_take]; rfl)) ?_; (with_reducible refine (groups_By.calls k (fun k_ => (k_ ≠ gb406 ∧ some k_ ≠ (v415 : Value).ownBlock)) _ _ t411 a2_0 a2_1 t418 t421 _ ?side1 A9.out).mono ?_); (case side1 => exact HO413.out); rintro e w23 ⟨v419, rfl, ho0, hb⟩; refine ⟨_, rfl, ?_⟩; have n0_ := Aside0.mk (Kd.V_elder' (by (with_reducible repeat (first | apply Kd.V_alloc | apply Kd.V_drewN | apply Kd.V_drew)); exact HO410.out) (Kd.R_base ho0) hb); have n1_ := Aside0.mk (Kd.V_elder' (by (with_reducible repeat (first | apply Kd.V_alloc | apply Kd.V_drewN | apply Kd.V_drew)); exact HO413.out) (Kd.R_base ho0) hb); have n2_ := Aside0.mk (Kd.R_elder' (by (with_reducible repeat (first | apply Kd.R_alloc | apply Kd.R_drewN | apply Kd.R_drew)); exact HO416.out) (Kd.R_base ho0) hb); have n3_ := Aside0.mk (Kd.R_lower (Kd.R_new' (Kd.R_mono (ok' := fun k_ => True) ho0 (fun _ hk_ => trivial)) (Kd.R_lt (by (with_reducible repeat (first | apply Kd.R_alloc | apply Kd.R_drewN | apply Kd.R_drew)); exact HO416.out))) (below_size (by repeat (first | (with_reducible first | exact HB.out | apply below_alloc | apply pw_below_drewN | apply below_drew1 | refine below_set ?_ GE406.out) | exact HB.out)))); have n4_ := Aside0.mk (blk_below (g := gb406) (o := .cells #[.int .i64 a2_0, .int .i64 a2_1] 62 (0, 0)) (by (with_reducible repeat (first | refine blk_drewN ?_ _ | refine blk_drew ?_ | refine blk_alloc ?_ _)); exact BK406.out) hb); have n5_ := Aside0.mk (below_step (by repeat (first | (with_reducible first | exact HB.out | apply below_alloc | apply pw_below_drewN | apply below_drew1 | refine below_set ?_ GE406.out) | exact HB.out)) hb); clear HO410; clear HO413; clear HO416; clear BK406; clear HB; have HO410 := n0_; have HO413 := n1_; have HO416 := n2_; have HO420 := n3_; have BK406 := n4_; have HB := n5_; clear n0_ n1_ n2_ n3_ n4_ n5_; (try clear hb); (try clear hb2); (try clear hk); (try clear hi); (try clear ho0)))
    have n0_ := Aside0.mk (Kd.V_drew HO410.out)
    have n1_ := Aside0.mk (Kd.V_drew HO413.out)
    have n2_ := Aside0.mk (Kd.R_drew HO416.out)
    have n3_ := Aside0.mk (Kd.R_drew HO420.out)
    have n4_ := Aside0.mk (blk_drew BK406.out)
    have n5_ := Aside0.mk (below_drew1 HB.out)
    clear HO410
    clear HO413
    clear HO416
    clear HO420
    clear BK406
    clear HB
    have HO410 := n0_
    have HO413 := n1_
    have HO416 := n2_
    have HO420 := n3_
    have BK406 := n4_
    have HB := n5_
    clear n0_ n1_ n2_ n3_ n4_ n5_
    refine start_ (n := 14) (S := fun w' => w'.cell? ⟨gb406, 0, none⟩ = some (.int .i64 a2_0) ∧ w'.cell? ⟨gb406, 1, none⟩ = some (.int .i64 a2_1)) (ds := []) #[false, false, false, false, false, false, false, false, false, false, false, false, false, false] (by kernel_rfl) rfl rfl ⟨(blk_cell BK406.out 0).trans rfl, (blk_cell BK406.out 1).trans rfl⟩ (fun hHeld => ?_); refine with_tabW tithebarnlaw24_GroupsParts.tab6 tithebarnlaw24_GroupsParts.bits6 (fun HT_ HW_ => ?_)
    generalize w23.drew = w24 at HO410 HO413 HO416 HO420 BK406 HB hHeld ⊢
    refine pure_ (i := 0) (N := some 40) (v := ?_) (a' := ?_) #[true, false, false, false, false, false, false, false, false, false, false, false, false, false] rfl rfl (any_of HT_.out (by kernel_rfl)) (fun _ _ _ h => h) (Or.inl ⟨by rfl, ?_⟩) ?_ ?_
    rotate_left
    ·intro w'
     go_simp
     with_reducible rfl
    rotate_left
    ·simp only [Act.put, List.setIfInBounds_toArray, List.set_cons_zero, List.set_cons_succ, i64_w, i32_w]
     rfl
    refine pure_ (i := 2) (N := some 42) (v := ?_) (a' := ?_) #[true, false, true, false, false, false, false, false, false, false, false, false, false, false] rfl rfl (any_of HT_.out (by kernel_rfl)) (fun _ _ _ h => h) (Or.inl ⟨by rfl, ?_⟩) ?_ ?_
    rotate_left
    ·intro w'
     go_simp
     with_reducible rfl
    rotate_left
    ·simp only [Act.put, List.setIfInBounds_toArray, List.set_cons_zero, List.set_cons_succ, i64_w, i32_w]
     rfl
    refine pure_ (i := 4) (N := some 44) (v := ?_) (a' := ?_) #[true, false, true, false, true, false, false, false, false, false, false, false, false, false] rfl rfl (any_of HT_.out (by kernel_rfl)) (fun _ _ _ h => h) (Or.inl ⟨by rfl, ?_⟩) ?_ ?_
    rotate_left
    ·intro w'
     go_simp
     with_reducible rfl
    rotate_left
    ·simp only [Act.put, List.setIfInBounds_toArray, List.set_cons_zero, List.set_cons_succ, i64_w, i32_w]
     rfl
    refine pure_ (i := 6) (N := some 46) (v := ?_) (a' := ?_) #[true, false, true, false, true, false, true, false, false, false, false, false, false, false] rfl rfl (any_of HT_.out (by kernel_rfl)) (fun _ _ _ h => h) (Or.inl ⟨by rfl, ?_⟩) ?_ ?_
    rotate_left
    ·intro w'
     go_simp
     with_reducible rfl
    rotate_left
    ·simp only [Act.put, List.setIfInBounds_toArray, List.set_cons_zero, List.set_cons_succ, i64_w, i32_w]
     rfl
    refine take_ (i := 5) (N := some 45) (v := ?_) (a' := ?_) #[true, false, true, false, true, true, true, false, false, false, false, false, false, false] rfl rfl (take_ofW HT_.out HW_.out (by kernel_rfl)) (fun _ _ _ h => h) (Or.inl ⟨by rfl, ?_⟩) hHeld ?_ ?_
    rotate_left
    ·rintro w' ⟨s0, s1⟩
     go_simp
     with_reducible rfl
    rotate_left
    ·simp only [Act.put, List.setIfInBounds_toArray, List.set_cons_zero, List.set_cons_succ, i64_w, i32_w]
     rfl
    refine take_ (i := 7) (N := some 47) (v := ?_) (a' := ?_) #[true, false, true, false, true, true, true, true, false, false, false, false, false, false] rfl rfl (take_ofW HT_.out HW_.out (by kernel_rfl)) (fun _ _ _ h => h) (Or.inl ⟨by rfl, ?_⟩) hHeld ?_ ?_
    rotate_left
    ·rintro w' ⟨s0, s1⟩
     go_simp
     with_reducible rfl
    rotate_left
    ·simp only [Act.put, List.setIfInBounds_toArray, List.set_cons_zero, List.set_cons_succ, i64_w, i32_w]
     rfl
    refine one_ (i := 1) (N := some 41) #[true, true, true, false, true, true, true, true, false, false, false, false, false, false] rfl rfl (one_of HT_.out (by kernel_rfl)) (by decide) (fun K hK => ?_)
    refine Kd.N_append_rows_step (Kd.slice 37 k37) (w0 := w) w.heap.size (by rfl) (.const (.slice none 0 0)) (.tmp 40) 51 39 (.slice none 0 0) 24 rfl Try.underlying51 info39 rfl (by decide) (by omega) (.slice none 0 0) ([] : List (List (S37))) t408 _ _ _ (fun k_ => some k_ ≠ (v415 : Value).ownBlock ∧ some k_ ≠ (v419 : Value).ownBlock ∧ k_ ≠ gb406) (fun k_ => ((fun k_ => some k_ ≠ (v415 : Value).ownBlock ∧ some k_ ≠ (v419 : Value).ownBlock ∧ k_ ≠ gb406)) k_ ∧ some k_ ≠ (.slice none 0 0 : Value).ownBlock) rfl rfl ?aO ?aR (fun _ hk => hk) ?aF ?aB ?aS ?aL ?_
    (case aR => exact (by skip; exact Kd.V_F (Kd.V_mono (ok' := (fun k_ => ((fun k_ => some k_ ≠ (v415 : Value).ownBlock ∧ some k_ ≠ (v419 : Value).ownBlock ∧ k_ ≠ gb406)) k_ ∧ some k_ ≠ (.slice none 0 0 : Value).ownBlock)) (HO410.out) (fun k_ hk => ⟨⟨hk.1.2, ⟨hk.2, hk.1.1⟩⟩, (by simp [Value.ownBlock])⟩))))
    (case aB => exact (by repeat (first | (with_reducible first | exact HB.out | apply below_alloc | apply pw_below_drewN | apply below_drew1 | refine below_set ?_ GE406.out) | exact HB.out)))
    (case aF => exact (fun k_ hk => ⟨Kd.fresh' (Kd.R_lt (by (with_reducible repeat (first | apply Kd.R_alloc | apply Kd.R_drewN | apply Kd.R_drew)); exact HO416.out)) k_ hk, Kd.fresh' (Kd.R_lt (by (with_reducible repeat (first | apply Kd.R_alloc | apply Kd.R_drewN | apply Kd.R_drew)); exact HO420.out)) k_ hk, Kd.freshB (g := gb406) (o := .cells #[.int .i64 a2_0, .int .i64 a2_1] 62 (0, 0)) (by (with_reducible repeat (first | refine blk_drewN ?_ _ | refine blk_drew ?_ | refine blk_alloc ?_ _)); exact BK406.out) k_ hk⟩))
    (case aO => exact ((Kd.N_nil _ _ _ _ (fun k_ => some k_ ≠ (v415 : Value).ownBlock ∧ some k_ ≠ (v419 : Value).ownBlock ∧ k_ ≠ gb406))))
    (case aS => exact (below_size (by repeat (first | (with_reducible first | exact HB.out | apply below_alloc | apply pw_below_drewN | apply below_drew1 | refine below_set ?_ GE406.out) | exact HB.out))))
    (case aL => have := LMc10.out; omega)
    intro v423 w25 ho hb hg hat
    rw [← Ny422.out] at ho
    have n0_ := Aside0.mk (blk_grown (g := gb406) (o := .cells #[.int .i64 a2_0, .int .i64 a2_1] 62 (0, 0)) (by (with_reducible repeat (first | refine blk_drewN ?_ _ | refine blk_drew ?_ | refine blk_alloc ?_ _)); exact BK406.out) hg (by simp [Value.ownBlock]))
    have n1_ := Aside0.mk (Kd.V_afterv (Kd.V_apart_nil (by (with_reducible repeat (first | apply Kd.V_alloc | apply Kd.V_drewN | apply Kd.V_drew)); exact HO410.out)) hg hat)
    have n2_ := Aside0.mk (Kd.V_afterv (Kd.V_apart_nil (by (with_reducible repeat (first | apply Kd.V_alloc | apply Kd.V_drewN | apply Kd.V_drew)); exact HO413.out)) hg hat)
    have n3_ := Aside0.mk (Kd.R_grown (by (with_reducible repeat (first | apply Kd.R_alloc | apply Kd.R_drewN | apply Kd.R_drew)); exact HO416.out) hg (fun _ _ => by simp [Value.ownBlock]))
    have n4_ := Aside0.mk (Kd.R_grown (by (with_reducible repeat (first | apply Kd.R_alloc | apply Kd.R_drewN | apply Kd.R_drew)); exact HO420.out) hg (fun _ _ => by simp [Value.ownBlock]))
    have n5_ := Aside0.mk (hb)
    have n6_ := Aside0.mk (ho)
    clear BK406
    clear HO410
    clear HO413
    clear HO416
    clear HO420
    clear HB
    have BK406 := n0_
    have HO410 := n1_
    have HO413 := n2_
    have HO416 := n3_
    have HO420 := n4_
    have HB := n5_
    have HO424 := n6_
    clear n0_ n1_ n2_ n3_ n4_ n5_ n6_
    clear ho hb hg hat
    refine hK.out _ _ ⟨(blk_cell BK406.out 0).trans rfl, (blk_cell BK406.out 1).trans rfl⟩ (fun hHeld => ?_)
    clear hK K
    refine norm_ (a' := ?_) ?_ ?_
    rotate_left
    ·show Act.put _ (some 41) _ = _
     simp only [Act.put, List.setIfInBounds_toArray, List.set_cons_zero, List.set_cons_succ, i64_w, i32_w]
     rfl
    refine one_ (i := 3) (N := some 43) #[true, true, true, true, true, true, true, true, false, false, false, false, false, false] rfl rfl (one_of HT_.out (by kernel_rfl)) (by decide) (fun K hK => ?_)
    refine Kd.N_append_rows_step (Kd.slice 37 k37) (w0 := w) w.heap.size (by rfl) (.tmp 41) (.tmp 42) 51 39 (.slice none 0 0) 24 rfl Try.underlying51 info39 rfl (by decide) (by omega) v423 y422 t411 _ _ _ (fun k_ => some k_ ≠ (v415 : Value).ownBlock ∧ some k_ ≠ (v419 : Value).ownBlock ∧ k_ ≠ gb406) (fun k_ => ((fun k_ => some k_ ≠ (v415 : Value).ownBlock ∧ some k_ ≠ (v419 : Value).ownBlock ∧ k_ ≠ gb406)) k_ ∧ some k_ ≠ (v423 : Value).ownBlock) rfl rfl ?aO ?aR (fun _ hk => hk) ?aF ?aB ?aS ?aL ?_
    (case aR => exact (by skip; exact Kd.V_F (Kd.V_mono (ok' := (fun k_ => ((fun k_ => some k_ ≠ (v415 : Value).ownBlock ∧ some k_ ≠ (v419 : Value).ownBlock ∧ k_ ≠ gb406)) k_ ∧ some k_ ≠ (v423 : Value).ownBlock)) (HO413.out) (fun k_ hk => ⟨⟨hk.1.1.2, ⟨hk.1.2, hk.1.1.1⟩⟩, hk.2⟩))))
    (case aB => exact (by repeat (first | (with_reducible first | exact HB.out | apply below_alloc | apply pw_below_drewN | apply below_drew1 | refine below_set ?_ GE406.out) | exact HB.out)))
    (case aF => exact (fun k_ hk => ⟨Kd.fresh' (Kd.R_lt (by (with_reducible repeat (first | apply Kd.R_alloc | apply Kd.R_drewN | apply Kd.R_drew)); exact HO416.out)) k_ hk, Kd.fresh' (Kd.R_lt (by (with_reducible repeat (first | apply Kd.R_alloc | apply Kd.R_drewN | apply Kd.R_drew)); exact HO420.out)) k_ hk, Kd.freshB (g := gb406) (o := .cells #[.int .i64 a2_0, .int .i64 a2_1] 62 (0, 0)) (by (with_reducible repeat (first | refine blk_drewN ?_ _ | refine blk_drew ?_ | refine blk_alloc ?_ _)); exact BK406.out) k_ hk⟩))
    (case aO => exact (by (with_reducible repeat (first | apply Kd.N_alloc | apply Kd.N_drewN | apply Kd.N_drew)); exact HO424.out))
    (case aS => exact (below_size (by repeat (first | (with_reducible first | exact HB.out | apply below_alloc | apply pw_below_drewN | apply below_drew1 | refine below_set ?_ GE406.out) | exact HB.out))))
    (case aL => have := LMc11.out; omega)
    intro v426 w26 ho hb hg hat
    rw [← Ny425.out] at ho
    have n0_ := Aside0.mk (blk_grown (g := gb406) (o := .cells #[.int .i64 a2_0, .int .i64 a2_1] 62 (0, 0)) (by (with_reducible repeat (first | refine blk_drewN ?_ _ | refine blk_drew ?_ | refine blk_alloc ?_ _)); exact BK406.out) hg (Kd.N_ne HO424.out BK406.out (by decide)))
    have n1_ := Aside0.mk (Kd.V_afterv (ok := (fun k_ => some k_ ≠ (v415 : Value).ownBlock ∧ some k_ ≠ (v419 : Value).ownBlock ∧ k_ ≠ gb406)) (by (with_reducible repeat (first | apply Kd.V_alloc | apply Kd.V_drewN | apply Kd.V_drew)); exact Kd.V_mono HO410.out (fun _ hk => ⟨⟨hk.1.1.2, ⟨hk.1.2, hk.1.1.1⟩⟩, hk.2⟩)) hg hat)
    have n2_ := Aside0.mk (Kd.V_afterv (ok := (fun k_ => some k_ ≠ (v415 : Value).ownBlock ∧ some k_ ≠ (v419 : Value).ownBlock ∧ k_ ≠ gb406)) (by (with_reducible repeat (first | apply Kd.V_alloc | apply Kd.V_drewN | apply Kd.V_drew)); exact Kd.V_mono HO413.out (fun _ hk => ⟨⟨hk.1.1.2, ⟨hk.1.2, hk.1.1.1⟩⟩, hk.2⟩)) hg hat)
    have n3_ := Aside0.mk (Kd.R_over' (by (with_reducible repeat (first | apply Kd.R_alloc | apply Kd.R_drewN | apply Kd.R_drew)); exact HO416.out) (Kd.N_typed (by (with_reducible repeat (first | apply Kd.N_alloc | apply Kd.N_drewN | apply Kd.N_drew)); exact HO424.out)) (by decide) hg)
    have n4_ := Aside0.mk (Kd.R_over' (by (with_reducible repeat (first | apply Kd.R_alloc | apply Kd.R_drewN | apply Kd.R_drew)); exact HO420.out) (Kd.N_typed (by (with_reducible repeat (first | apply Kd.N_alloc | apply Kd.N_drewN | apply Kd.N_drew)); exact HO424.out)) (by decide) hg)
    have n5_ := Aside0.mk (hb)
    have n6_ := Aside0.mk (ho)
    clear BK406
    clear HO410
    clear HO413
    clear HO416
    clear HO420
    clear HB
    clear HO424
    have BK406 := n0_
    have HO410 := n1_
    have HO413 := n2_
    have HO416 := n3_
    have HO420 := n4_
    have HB := n5_
    have HO427 := n6_
    clear n0_ n1_ n2_ n3_ n4_ n5_ n6_
    clear ho hb hg hat
    obtain ⟨Ao27, co27, eo27⟩ := Kd.N_slice HO427.out
    (first | subst eo27 | (injection eo27 with f1_ f2_ f3_; have f4_ := f1_.symm; have f5_ := f3_.symm; clear f1_ f2_ f3_; subst f4_; subst f5_))
    refine hK.out _ _ ⟨(blk_cell BK406.out 0).trans rfl, (blk_cell BK406.out 1).trans rfl⟩ (fun hHeld => ?_)
    clear hK K
    refine norm_ (a' := ?_) ?_ ?_
    rotate_left
    ·show Act.put _ (some 43) _ = _
     simp only [Act.put, List.setIfInBounds_toArray, List.set_cons_zero, List.set_cons_succ, i64_w, i32_w]
     rfl
    refine one_ (i := 8) (N := some 48) #[true, true, true, true, true, true, true, true, true, false, false, false, false, false] rfl rfl (one_of HT_.out (by kernel_rfl)) (by decide) (fun K hK => ?_)
    refine goes_ Try.func26 (by kernel_rfl) rfl #[.slice Ao27 y425.length co27, .int .i64 a2_0, .int .i64 a2_1] (by rfl) rfl rfl (by (try simp only [List.map_toArray, List.map_cons, List.map_nil]); first | done | rfl | (simp only [List.length_drop, List.length_take]; rfl)) ?_
    with_reducible refine (groups_By.calls k (fun k_ => (some k_ ≠ (v415 : Value).ownBlock ∧ (some k_ ≠ (v419 : Value).ownBlock ∧ k_ ≠ gb406))) _ _ y425 a2_0 a2_1 t428 t431 _ ?side1 A12.out).mono ?_
    (case side1 => exact Kd.N_V (HO427.out))
    rintro e w28 ⟨v429, rfl, ho0, hb⟩
    refine ⟨_, rfl, ?_⟩
    have n0_ := Aside0.mk (Kd.V_elder' (by (with_reducible repeat (first | apply Kd.V_alloc | apply Kd.V_drewN | apply Kd.V_drew)); exact HO410.out) (Kd.R_base ho0) hb)
    have n1_ := Aside0.mk (Kd.V_elder' (by (with_reducible repeat (first | apply Kd.V_alloc | apply Kd.V_drewN | apply Kd.V_drew)); exact HO413.out) (Kd.R_base ho0) hb)
    have n2_ := Aside0.mk (Kd.R_elder' (by (with_reducible repeat (first | apply Kd.R_alloc | apply Kd.R_drewN | apply Kd.R_drew)); exact HO416.out) (Kd.R_base ho0) hb)
    have n3_ := Aside0.mk (Kd.R_elder' (by (with_reducible repeat (first | apply Kd.R_alloc | apply Kd.R_drewN | apply Kd.R_drew)); exact HO420.out) (Kd.R_base ho0) hb)
    have n4_ := Aside0.mk (Kd.N_elder' (by (with_reducible repeat (first | apply Kd.N_alloc | apply Kd.N_drewN | apply Kd.N_drew)); exact HO427.out) (Kd.R_base ho0) hb)
    have n5_ := Aside0.mk (Kd.R_lower (Kd.R_new' (Kd.R_new' (Kd.R_mono (ok' := fun k_ => True) ho0 (fun _ hk_ => trivial)) (Kd.R_lt (by (with_reducible repeat (first | apply Kd.R_alloc | apply Kd.R_drewN | apply Kd.R_drew)); exact HO416.out))) (Kd.R_lt (by (with_reducible repeat (first | apply Kd.R_alloc | apply Kd.R_drewN | apply Kd.R_drew)); exact HO420.out))) (below_size (by repeat (first | (with_reducible first | exact HB.out | apply below_alloc | apply pw_below_drewN | apply below_drew1 | refine below_set ?_ GE406.out) | exact HB.out))))
    have n6_ := Aside0.mk (blk_below (g := gb406) (o := .cells #[.int .i64 a2_0, .int .i64 a2_1] 62 (0, 0)) (by (with_reducible repeat (first | refine blk_drewN ?_ _ | refine blk_drew ?_ | refine blk_alloc ?_ _)); exact BK406.out) hb)
    have n7_ := Aside0.mk (below_step (by repeat (first | (with_reducible first | exact HB.out | apply below_alloc | apply pw_below_drewN | apply below_drew1 | refine below_set ?_ GE406.out) | exact HB.out)) hb)
    clear HO410
    clear HO413
    clear HO416
    clear HO420
    clear HO427
    clear BK406
    clear HB
    have HO410 := n0_
    have HO413 := n1_
    have HO416 := n2_
    have HO420 := n3_
    have HO427 := n4_
    have HO430 := n5_
    have BK406 := n6_
    have HB := n7_
    clear n0_ n1_ n2_ n3_ n4_ n5_ n6_ n7_
    (try clear hb)
    (try clear hb2)
    (try clear hk)
    (try clear hi)
    (try clear ho0)
    refine hK.out _ _ ⟨(blk_cell BK406.out 0).trans rfl, (blk_cell BK406.out 1).trans rfl⟩ (fun hHeld => ?_)
    clear hK K
    refine norm_ (a' := ?_) ?_ ?_
    rotate_left
    ·show Act.put _ (some 48) _ = _
     simp only [Act.put, List.setIfInBounds_toArray, List.set_cons_zero, List.set_cons_succ, i64_w, i32_w]
     rfl
    refine pure_ (i := 9) (N := some 39) (v := ?_) (a' := ?_) #[true, true, true, true, true, true, true, true, true, true, false, false, false, false] rfl rfl (any_of HT_.out (by kernel_rfl)) (fun _ _ _ h => h) (Or.inl ⟨by rfl, ?_⟩) ?_ ?_
    rotate_left
    ·intro w'
     go_simp
     with_reducible rfl
    rotate_left
    ·simp only [Act.put, List.setIfInBounds_toArray, List.set_cons_zero, List.set_cons_succ, i64_w, i32_w]
     rfl
    refine pure_ (i := 10) (N := some 49) (v := ?_) (a' := ?_) #[true, true, true, true, true, true, true, true, true, true, true, false, false, false] rfl rfl (any_of HT_.out (by kernel_rfl)) (fun _ _ _ h => h) (Or.inl ⟨by rfl, ?_⟩) ?_ ?_
    rotate_left
    ·intro w'
     go_simp
     with_reducible rfl
    rotate_left
    ·simp only [Act.put, List.setIfInBounds_toArray, List.set_cons_zero, List.set_cons_succ, i64_w, i32_w]
     rfl
    refine pure_ (i := 11) (N := some 50) (v := ?_) (a' := ?_) #[true, true, true, true, true, true, true, true, true, true, true, true, false, false] rfl rfl (any_of HT_.out (by kernel_rfl)) (fun _ _ _ h => h) (Or.inl ⟨by rfl, ?_⟩) ?_ ?_
    rotate_left
    ·intro w'
     go_simp
     with_reducible rfl
    rotate_left
    ·simp only [Act.put, List.setIfInBounds_toArray, List.set_cons_zero, List.set_cons_succ, i64_w, i32_w]
     rfl
    refine pure_ (i := 12) (N := some 11) (v := ?_) (a' := ?_) #[true, true, true, true, true, true, true, true, true, true, true, true, true, false] rfl rfl (any_of HT_.out (by kernel_rfl)) (fun _ _ _ h => h) (Or.inl ⟨by rfl, ?_⟩) ?_ ?_
    rotate_left
    ·intro w'
     go_simp
     with_reducible rfl
    rotate_left
    ·simp only [Act.put, List.setIfInBounds_toArray, List.set_cons_zero, List.set_cons_succ, i64_w, i32_w]
     rfl
    refine pure_ (i := 13) (N := some 12) (v := ?_) (a' := ?_) #[true, true, true, true, true, true, true, true, true, true, true, true, true, true] rfl rfl (any_of HT_.out (by kernel_rfl)) (fun _ _ _ h => h) (Or.inl ⟨by rfl, ?_⟩) ?_ ?_
    rotate_left
    ·intro w'
     go_simp
     with_reducible rfl
    rotate_left
    ·simp only [Act.put, List.setIfInBounds_toArray, List.set_cons_zero, List.set_cons_succ, i64_w, i32_w]
     rfl
    refine done_ (done_of HT_.out (by kernel_rfl)) ?_
    go_upto_region 7 with (fail)
    go_cut [56] (fun v56 wc => ∃ (kq : Nat) (x56_12 : Bool), v56 = .bool x56_12 ∧ Aside0 (tithebarnlaw24_GroupsParts.j0 kq t414 t418 t428 t431 x56_12 = some r) ∧ Aside0 (kq ≤ k) ∧ Aside0 (Kd.R k49 49 wc w.heap.size (fun k_ => some k_ ≠ (v419 : Value).ownBlock ∧ some k_ ≠ (v429 : Value).ownBlock) v415 t414) ∧ Aside0 (Kd.R k49 49 wc w.heap.size (fun k_ => some k_ ≠ (v415 : Value).ownBlock ∧ some k_ ≠ (v429 : Value).ownBlock) v419 t418) ∧ Aside0 (Kd.R k49 49 wc w.heap.size (fun k_ => some k_ ≠ (v415 : Value).ownBlock ∧ some k_ ≠ (v419 : Value).ownBlock) v429 t428) ∧ Aside0 (wc.heap[gb406]? = some (.cells #[.int .i64 a2_0, .int .i64 a2_1] 62 (0, 0))) ∧ Aside0 (Below w.heap.size w wc))
    case first =>
     have H := HC13.out
     clear HC13
     by_cases c29 : t417 = 0
     ·rw [if_pos c29] at H
      have c29b0 : (t417 == 0) = true := beq_iff_eq.mpr c29
      have c29b1 : (t417 != 0) = false := bne_eq_false_iff_eq.mpr c29
      clear c29
      (first | rw [c29b0] | (simp only [i64_w, i32_w]; rw [c29b0]) | skip)
      have H' := Aside0.mk H
      clear H
      go_wp2
      go_meet
      case rel => exact ⟨_, ((t421 != 0)), (by first | rfl | (simp; done) | (simp [*]; done)), H', ⟨by first | omega | exact Nat.le_refl _⟩, ⟨by (with_reducible repeat (first | apply Kd.R_alloc | apply Kd.R_drewN | apply Kd.R_drew)); exact Kd.R_mono HO416.out (fun _ hk => ⟨hk.1.2, hk.2⟩)⟩, ⟨by (with_reducible repeat (first | apply Kd.R_alloc | apply Kd.R_drewN | apply Kd.R_drew)); exact Kd.R_mono HO420.out (fun _ hk => ⟨hk.1.2, hk.2⟩)⟩, ⟨by (with_reducible repeat (first | apply Kd.R_alloc | apply Kd.R_drewN | apply Kd.R_drew)); exact Kd.R_mono HO430.out (fun _ hk => ⟨hk.1.2, hk.2⟩)⟩, ⟨by (with_reducible repeat (first | refine blk_drewN ?_ _ | refine blk_drew ?_ | refine blk_alloc ?_ _)); exact BK406.out⟩, ⟨by repeat (first | (with_reducible first | exact HB.out | apply below_alloc | apply pw_below_drewN | apply below_drew1 | refine below_set ?_ GE406.out) | exact HB.out)⟩⟩
     ·rw [if_neg c29] at H
      have c29b0 : (t417 == 0) = false := beq_eq_false_iff_ne.mpr c29
      have c29b1 : (t417 != 0) = true := bne_iff_ne.mpr c29
      (first | rw [c29b0] | (simp only [i64_w, i32_w]; rw [c29b0]) | skip)
      have H' := Aside0.mk H
      clear H
      go_wp2
      go_meet
      case rel => exact ⟨_, (true), (by first | rfl | (simp; done) | (simp [*]; done)), H', ⟨by first | omega | exact Nat.le_refl _⟩, ⟨by (with_reducible repeat (first | apply Kd.R_alloc | apply Kd.R_drewN | apply Kd.R_drew)); exact Kd.R_mono HO416.out (fun _ hk => ⟨hk.1.2, hk.2⟩)⟩, ⟨by (with_reducible repeat (first | apply Kd.R_alloc | apply Kd.R_drewN | apply Kd.R_drew)); exact Kd.R_mono HO420.out (fun _ hk => ⟨hk.1.2, hk.2⟩)⟩, ⟨by (with_reducible repeat (first | apply Kd.R_alloc | apply Kd.R_drewN | apply Kd.R_drew)); exact Kd.R_mono HO430.out (fun _ hk => ⟨hk.1.2, hk.2⟩)⟩, ⟨by (with_reducible repeat (first | refine blk_drewN ?_ _ | refine blk_drew ?_ | refine blk_alloc ?_ _)); exact BK406.out⟩, ⟨by repeat (first | (with_reducible first | exact HB.out | apply below_alloc | apply pw_below_drewN | apply below_drew1 | refine below_set ?_ GE406.out) | exact HB.out)⟩⟩
    case rest =>
     clear HC13
     try clear c1
     try clear c2
     try clear p2
     try clear c5
     try clear c10
     try clear c11
     try clear c12
     try clear c24
     try clear c26
     try clear c27
     try clear c29
     try clear c29b0
     try clear c29b1
     try clear hcz18_0
     try clear hcz18_1
     try clear hcz21_0
     try clear hcz21_1
     try clear hfz18_0
     try clear hfz18_1
     try clear hfz21_0
     try clear hfz21_1
     obtain ⟨kq, x56_12, rfl, HA, HJ12, HO_7, HO_9, HO_11, BK406, HB⟩ := hcut
     cases kq with
     | zero => exact absurd HA.out (by simp [tithebarnlaw24_GroupsParts.j0])
     | succ kj12 =>
      have H := HA.out
      clear HA
      simp only [tithebarnlaw24_GroupsParts.j0] at H
      by_cases c30 : x56_12 = true
      ·subst c30
       have H1 : (if t431 = 7 then (some ((t428.length : Int) == 0)) else (some false)) = some r := by rw [if_pos rfl] at H; exact H
       clear H
       have H := H1
       clear H1
       by_cases c31 : t431 = 7
       ·rw [if_pos c31] at H
        have c31b0 : (t431 == 7) = true := beq_iff_eq.mpr c31
        have c31b1 : (t431 != 7) = false := bne_eq_false_iff_eq.mpr c31
        clear c31
        obtain rfl := Option.some.inj H
        obtain ⟨Ao32, co32, eo32⟩ := Kd.R_slice HO_11.out
        subst eo32
        go_wp2
        go_ret
        exact ⟨by first | rfl | (simp [errW_none, errW_some] <;> rfl) | (simp [*, errW_none, errW_some] <;> rfl), by repeat (first | (with_reducible first | exact HB.out | apply below_alloc | apply pw_below_drewN | apply below_drew1 | refine below_set ?_ GE406.out) | exact HB.out)⟩
       ·rw [if_neg c31] at H
        have c31b0 : (t431 == 7) = false := beq_eq_false_iff_ne.mpr c31
        have c31b1 : (t431 != 7) = true := bne_iff_ne.mpr c31
        obtain rfl := Option.some.inj H
        go_wp2
        go_ret
        exact ⟨by first | rfl | (simp [errW_none, errW_some] <;> rfl) | (simp [*, errW_none, errW_some] <;> rfl), by repeat (first | (with_reducible first | exact HB.out | apply below_alloc | apply pw_below_drewN | apply below_drew1 | refine below_set ?_ GE406.out) | exact HB.out)⟩
      ·replace c30 := Bool.eq_false_iff.mpr c30
       subst c30
       have H1 : ((groups_Join.f kj12 t414 t418).bind fun bt432 => (if t431 = 0 then (if bt432.2 = 0 then ((tithebarnref24_Same.f kj12 bt432.1 t428).bind fun t436 => (some t436)) else (some false)) else (some false))) = some r := by rw [if_neg (show ¬ (false = true) by decide)] at H; exact H
       clear H
       have H := H1
       clear H1
       replace H := Option.bind_eq_some_iff.mp H
       obtain ⟨⟨t432, t435⟩, A330, H⟩ := H
       replace H : (if t431 = 0 then (if t435 = 0 then ((tithebarnref24_Same.f kj12 t432 t428).bind fun t436 => (some t436)) else (some false)) else (some false)) = some r := H
       have A33 := Aside0.mk A330
       clear A330
       by_cases c34 : t431 = 0
       ·rw [if_pos c34] at H
        have c34b0 : (t431 == 0) = true := beq_iff_eq.mpr c34
        have c34b1 : (t431 != 0) = false := bne_eq_false_iff_eq.mpr c34
        clear c34
        by_cases c35 : t435 = 0
        ·rw [if_pos c35] at H
         have c35b0 : (t435 == 0) = true := beq_iff_eq.mpr c35
         have c35b1 : (t435 != 0) = false := bne_eq_false_iff_eq.mpr c35
         clear c35
         replace H := Option.bind_eq_some_iff.mp H
         obtain ⟨t436, A360, H⟩ := H
         replace H : (some t436) = some r := H
         have A36 := Aside0.mk A360
         clear A360
         obtain rfl := Option.some.inj H
         obtain ⟨Ao37, co37, eo37⟩ := Kd.R_slice HO_7.out
         subst eo37
         obtain ⟨Ao38, co38, eo38⟩ := Kd.R_slice HO_9.out
         subst eo38
         go_wp2_with (first | ((with_reducible refine gate_callee (f := 35) rfl ?_); refine goesL_ (some 67) rfl rfl Try.func35 (by kernel_rfl) rfl #[.slice Ao37 t414.length co37, .slice Ao38 t418.length co38] rfl (by (try simp only [List.map_toArray, List.map_cons, List.map_nil]); first | done | rfl | (simp only [List.length_drop, List.length_take]; rfl)) ?_; (with_reducible refine (groups_Join.calls kj12 (fun k_ => some k_ = (.slice Ao37 t414.length co37 : Value).ownBlock) _ _ t414 (fun k_ => some k_ = (.slice Ao38 t418.length co38 : Value).ownBlock) _ _ t418 t432 t435 _ ?side1 ?side2 A33.out).mono ?_); (case side1 => exact Kd.R_V (Kd.R_tight rfl (Kd.R_types (HO_7.out) BK406.out (by decide)))); (case side2 => exact Kd.R_V (Kd.R_tight rfl (Kd.R_types (HO_9.out) BK406.out (by decide)))); rintro e w39 ⟨v433, rfl, ho0, hb⟩; refine ⟨_, rfl, ?_⟩; have n0_ := Aside0.mk (Kd.R_elder' (by (with_reducible repeat (first | apply Kd.R_alloc | apply Kd.R_drewN | apply Kd.R_drew)); exact HO_7.out) (Kd.R_base ho0) hb); have n1_ := Aside0.mk (Kd.R_elder' (by (with_reducible repeat (first | apply Kd.R_alloc | apply Kd.R_drewN | apply Kd.R_drew)); exact HO_9.out) (Kd.R_base ho0) hb); have n2_ := Aside0.mk (Kd.R_elder' (by (with_reducible repeat (first | apply Kd.R_alloc | apply Kd.R_drewN | apply Kd.R_drew)); exact HO_11.out) (Kd.R_base ho0) hb); have n3_ := Aside0.mk (Kd.R_lower (Kd.R_new' (Kd.R_new' (Kd.R_new' (Kd.R_mono (ok' := fun k_ => True) ho0 (fun _ hk_ => trivial)) (Kd.R_lt (by (with_reducible repeat (first | apply Kd.R_alloc | apply Kd.R_drewN | apply Kd.R_drew)); exact HO_7.out))) (Kd.R_lt (by (with_reducible repeat (first | apply Kd.R_alloc | apply Kd.R_drewN | apply Kd.R_drew)); exact HO_9.out))) (Kd.R_lt (by (with_reducible repeat (first | apply Kd.R_alloc | apply Kd.R_drewN | apply Kd.R_drew)); exact HO_11.out))) (below_size (by repeat (first | (with_reducible first | exact HB.out | apply below_alloc | apply pw_below_drewN | apply below_drew1 | refine below_set ?_ GE406.out) | exact HB.out)))); have n4_ := Aside0.mk (blk_below (g := gb406) (o := .cells #[.int .i64 a2_0, .int .i64 a2_1] 62 (0, 0)) (by (with_reducible repeat (first | refine blk_drewN ?_ _ | refine blk_drew ?_ | refine blk_alloc ?_ _)); exact BK406.out) hb); have n5_ := Aside0.mk (below_step (by repeat (first | (with_reducible first | exact HB.out | apply below_alloc | apply pw_below_drewN | apply below_drew1 | refine below_set ?_ GE406.out) | exact HB.out)) hb); clear HO_7; clear HO_9; clear HO_11; clear BK406; clear HB; have HO_7 := n0_; have HO_9 := n1_; have HO_11 := n2_; have HO434 := n3_; have BK406 := n4_; have HB := n5_; clear n0_ n1_ n2_ n3_ n4_ n5_; (try clear hb); (try clear hb2); (try clear hk); (try clear hi); (try clear ho0); obtain ⟨Ao40, co40, eo40⟩ := Kd.R_slice HO434.out; subst eo40; obtain ⟨Ao41, co41, eo41⟩ := Kd.R_slice HO_11.out; subst eo41) | (go_at_call 29; (with_reducible refine (tithebarnref24_Same.calls kj12 _ _ t432 _ _ t428 t436 _ ?side1 ?side2 ?side3 ?side4 A36.out).mono ?_); (case side1 => repeat (first | exact (Kd.R_reads' HO434.out).2.2 | (with_reducible refine Kd.C_alloc ?_ _) | (with_reducible refine Kd.C_drewN ?_ _) | (with_reducible refine Kd.C_drew ?_))); (case side2 => exact (Kd.R_reads' HO434.out).2.1); (case side3 => repeat (first | exact (Kd.R_reads' HO_11.out).2.2 | (with_reducible refine Kd.C_alloc ?_ _) | (with_reducible refine Kd.C_drewN ?_ _) | (with_reducible refine Kd.C_drew ?_))); (case side4 => exact (Kd.R_reads' HO_11.out).2.1); rintro e w' ⟨rfl, ⟨nd, rfl⟩⟩))
         go_ret
         exact ⟨by first | rfl | (simp [errW_none, errW_some] <;> rfl) | (simp [*, errW_none, errW_some] <;> rfl), by repeat (first | (with_reducible first | exact HB.out | apply below_alloc | apply pw_below_drewN | apply below_drew1 | refine below_set ?_ GE406.out) | exact HB.out)⟩
        ·rw [if_neg c35] at H
         have c35b0 : (t435 == 0) = false := beq_eq_false_iff_ne.mpr c35
         have c35b1 : (t435 != 0) = true := bne_iff_ne.mpr c35
         obtain rfl := Option.some.inj H
         obtain ⟨Ao42, co42, eo42⟩ := Kd.R_slice HO_7.out
         subst eo42
         obtain ⟨Ao43, co43, eo43⟩ := Kd.R_slice HO_9.out
         subst eo43
         go_wp2_with (first | ((with_reducible refine gate_callee (f := 35) rfl ?_); refine goesL_ (some 67) rfl rfl Try.func35 (by kernel_rfl) rfl #[.slice Ao42 t414.length co42, .slice Ao43 t418.length co43] rfl (by (try simp only [List.map_toArray, List.map_cons, List.map_nil]); first | done | rfl | (simp only [List.length_drop, List.length_take]; rfl)) ?_; (with_reducible refine (groups_Join.calls kj12 (fun k_ => some k_ = (.slice Ao42 t414.length co42 : Value).ownBlock) _ _ t414 (fun k_ => some k_ = (.slice Ao43 t418.length co43 : Value).ownBlock) _ _ t418 t432 t435 _ ?side1 ?side2 A33.out).mono ?_); (case side1 => exact Kd.R_V (Kd.R_tight rfl (Kd.R_types (HO_7.out) BK406.out (by decide)))); (case side2 => exact Kd.R_V (Kd.R_tight rfl (Kd.R_types (HO_9.out) BK406.out (by decide)))); rintro e w44 ⟨v433, rfl, ho0, hb⟩; refine ⟨_, rfl, ?_⟩; have n0_ := Aside0.mk (Kd.R_elder' (by (with_reducible repeat (first | apply Kd.R_alloc | apply Kd.R_drewN | apply Kd.R_drew)); exact HO_7.out) (Kd.R_base ho0) hb); have n1_ := Aside0.mk (Kd.R_elder' (by (with_reducible repeat (first | apply Kd.R_alloc | apply Kd.R_drewN | apply Kd.R_drew)); exact HO_9.out) (Kd.R_base ho0) hb); have n2_ := Aside0.mk (Kd.R_elder' (by (with_reducible repeat (first | apply Kd.R_alloc | apply Kd.R_drewN | apply Kd.R_drew)); exact HO_11.out) (Kd.R_base ho0) hb); have n3_ := Aside0.mk (Kd.R_lower (Kd.R_new' (Kd.R_new' (Kd.R_new' (Kd.R_mono (ok' := fun k_ => True) ho0 (fun _ hk_ => trivial)) (Kd.R_lt (by (with_reducible repeat (first | apply Kd.R_alloc | apply Kd.R_drewN | apply Kd.R_drew)); exact HO_7.out))) (Kd.R_lt (by (with_reducible repeat (first | apply Kd.R_alloc | apply Kd.R_drewN | apply Kd.R_drew)); exact HO_9.out))) (Kd.R_lt (by (with_reducible repeat (first | apply Kd.R_alloc | apply Kd.R_drewN | apply Kd.R_drew)); exact HO_11.out))) (below_size (by repeat (first | (with_reducible first | exact HB.out | apply below_alloc | apply pw_below_drewN | apply below_drew1 | refine below_set ?_ GE406.out) | exact HB.out)))); have n4_ := Aside0.mk (blk_below (g := gb406) (o := .cells #[.int .i64 a2_0, .int .i64 a2_1] 62 (0, 0)) (by (with_reducible repeat (first | refine blk_drewN ?_ _ | refine blk_drew ?_ | refine blk_alloc ?_ _)); exact BK406.out) hb); have n5_ := Aside0.mk (below_step (by repeat (first | (with_reducible first | exact HB.out | apply below_alloc | apply pw_below_drewN | apply below_drew1 | refine below_set ?_ GE406.out) | exact HB.out)) hb); clear HO_7; clear HO_9; clear HO_11; clear BK406; clear HB; have HO_7 := n0_; have HO_9 := n1_; have HO_11 := n2_; have HO434 := n3_; have BK406 := n4_; have HB := n5_; clear n0_ n1_ n2_ n3_ n4_ n5_; (try clear hb); (try clear hb2); (try clear hk); (try clear hi); (try clear ho0)))
         go_ret
         exact ⟨by first | rfl | (simp [errW_none, errW_some] <;> rfl) | (simp [*, errW_none, errW_some] <;> rfl), by repeat (first | (with_reducible first | exact HB.out | apply below_alloc | apply pw_below_drewN | apply below_drew1 | refine below_set ?_ GE406.out) | exact HB.out)⟩
       ·rw [if_neg c34] at H
        have c34b0 : (t431 == 0) = false := beq_eq_false_iff_ne.mpr c34
        have c34b1 : (t431 != 0) = true := bne_iff_ne.mpr c34
        obtain rfl := Option.some.inj H
        obtain ⟨Ao45, co45, eo45⟩ := Kd.R_slice HO_7.out
        subst eo45
        obtain ⟨Ao46, co46, eo46⟩ := Kd.R_slice HO_9.out
        subst eo46
        go_wp2_with (first | ((with_reducible refine gate_callee (f := 35) rfl ?_); refine goesL_ (some 67) rfl rfl Try.func35 (by kernel_rfl) rfl #[.slice Ao45 t414.length co45, .slice Ao46 t418.length co46] rfl (by (try simp only [List.map_toArray, List.map_cons, List.map_nil]); first | done | rfl | (simp only [List.length_drop, List.length_take]; rfl)) ?_; (with_reducible refine (groups_Join.calls kj12 (fun k_ => some k_ = (.slice Ao45 t414.length co45 : Value).ownBlock) _ _ t414 (fun k_ => some k_ = (.slice Ao46 t418.length co46 : Value).ownBlock) _ _ t418 t432 t435 _ ?side1 ?side2 A33.out).mono ?_); (case side1 => exact Kd.R_V (Kd.R_tight rfl (Kd.R_types (HO_7.out) BK406.out (by decide)))); (case side2 => exact Kd.R_V (Kd.R_tight rfl (Kd.R_types (HO_9.out) BK406.out (by decide)))); rintro e w47 ⟨v433, rfl, ho0, hb⟩; refine ⟨_, rfl, ?_⟩; have n0_ := Aside0.mk (Kd.R_elder' (by (with_reducible repeat (first | apply Kd.R_alloc | apply Kd.R_drewN | apply Kd.R_drew)); exact HO_7.out) (Kd.R_base ho0) hb); have n1_ := Aside0.mk (Kd.R_elder' (by (with_reducible repeat (first | apply Kd.R_alloc | apply Kd.R_drewN | apply Kd.R_drew)); exact HO_9.out) (Kd.R_base ho0) hb); have n2_ := Aside0.mk (Kd.R_elder' (by (with_reducible repeat (first | apply Kd.R_alloc | apply Kd.R_drewN | apply Kd.R_drew)); exact HO_11.out) (Kd.R_base ho0) hb); have n3_ := Aside0.mk (Kd.R_lower (Kd.R_new' (Kd.R_new' (Kd.R_new' (Kd.R_mono (ok' := fun k_ => True) ho0 (fun _ hk_ => trivial)) (Kd.R_lt (by (with_reducible repeat (first | apply Kd.R_alloc | apply Kd.R_drewN | apply Kd.R_drew)); exact HO_7.out))) (Kd.R_lt (by (with_reducible repeat (first | apply Kd.R_alloc | apply Kd.R_drewN | apply Kd.R_drew)); exact HO_9.out))) (Kd.R_lt (by (with_reducible repeat (first | apply Kd.R_alloc | apply Kd.R_drewN | apply Kd.R_drew)); exact HO_11.out))) (below_size (by repeat (first | (with_reducible first | exact HB.out | apply below_alloc | apply pw_below_drewN | apply below_drew1 | refine below_set ?_ GE406.out) | exact HB.out)))); have n4_ := Aside0.mk (blk_below (g := gb406) (o := .cells #[.int .i64 a2_0, .int .i64 a2_1] 62 (0, 0)) (by (with_reducible repeat (first | refine blk_drewN ?_ _ | refine blk_drew ?_ | refine blk_alloc ?_ _)); exact BK406.out) hb); have n5_ := Aside0.mk (below_step (by repeat (first | (with_reducible first | exact HB.out | apply below_alloc | apply pw_below_drewN | apply below_drew1 | refine below_set ?_ GE406.out) | exact HB.out)) hb); clear HO_7; clear HO_9; clear HO_11; clear BK406; clear HB; have HO_7 := n0_; have HO_9 := n1_; have HO_11 := n2_; have HO434 := n3_; have BK406 := n4_; have HB := n5_; clear n0_ n1_ n2_ n3_ n4_ n5_; (try clear hb); (try clear hb2); (try clear hk); (try clear hi); (try clear ho0)))
        go_ret
        exact ⟨by first | rfl | (simp [errW_none, errW_some] <;> rfl) | (simp [*, errW_none, errW_some] <;> rfl), by repeat (first | (with_reducible first | exact HB.out | apply below_alloc | apply pw_below_drewN | apply below_drew1 | refine below_set ?_ GE406.out) | exact HB.out)⟩
   ·rw [if_neg c11] at H
    exact absurd H (by simp)
  ·rw [if_neg c10] at H
   exact absurd H (by simp)
 ·replace c5 := Bool.eq_false_iff.mpr c5
  subst c5
  have H1 : (some false) = some r := by rw [if_neg (show ¬ (false = true) by decide)] at H; exact H
  clear H
  have H := H1
  clear H1
  obtain rfl := Option.some.inj H
  go_enter Try.func12, Try.ntmps12
  go_wp2_with (first | ((with_reducible refine gate_dst (N := 5) rfl ?_); (try (refine gate_guard (by rfl) ?_; dsimp only)); refine box_event ?hg (N := 5) ?hd (cs := #[.int .i64 a2_0, .int .i64 a2_1]) (t := 62) ?hr ?_; (case hd => rfl); (case hg => rfl); (case hr => first | (go_simp; done) | (go_simp; rfl)); intro gb406 hg w48 hbox hb; have n0_ := Aside0.mk (below_step (by repeat (first | (with_reducible first | exact HB.out | apply below_alloc | apply pw_below_drewN | apply below_drew1) | exact HB.out)) hb); have n1_ := Aside0.mk (hbox); have n2_ := Aside0.mk ((by rw [hg]; exact (below_size (by repeat (first | (with_reducible first | exact HB.out | apply below_alloc | apply pw_below_drewN | apply below_drew1) | exact HB.out))) : w.heap.size ≤ gb406)); have n3_ := Aside0.mk ((by rw [hg]; exact (below_size (by repeat (first | (with_reducible first | exact HB.out | apply below_alloc | apply pw_below_drewN | apply below_drew1) | exact HB.out))) : w.heap.size ≤ gb406)); clear HB; have HB := n0_; have BK406 := n1_; have GW406 := n2_; have GE406 := n3_; clear n0_ n1_ n2_ n3_; clear hb hbox hg) | ((with_reducible refine gate_callee (f := 24) rfl ?_); refine goesL_ (some 15) rfl rfl Try.func24 (by kernel_rfl) rfl #[] rfl (by (try simp only [List.map_toArray, List.map_cons, List.map_nil]); first | done | rfl | (simp only [List.length_drop, List.length_take]; rfl)) ?_; (with_reducible refine (tithebarnlaw24_lives.calls k  false _ A4.out).mono ?_); rintro e w49 ⟨rfl, hb⟩; refine ⟨_, rfl, ?_⟩; have n0_ := Aside0.mk (blk_below (g := gb406) (o := .cells #[.int .i64 a2_0, .int .i64 a2_1] 62 (0, 0)) (by (with_reducible repeat (first | refine blk_drewN ?_ _ | refine blk_drew ?_ | refine blk_alloc ?_ _)); exact BK406.out) hb); have n1_ := Aside0.mk (below_step (by repeat (first | (with_reducible first | exact HB.out | apply below_alloc | apply pw_below_drewN | apply below_drew1 | refine below_set ?_ GE406.out) | exact HB.out)) hb); clear BK406; clear HB; have BK406 := n0_; have HB := n1_; clear n0_ n1_; (try clear hb); (try clear hb2); (try clear hk); (try clear hi)))
  go_ret
  exact ⟨by first | rfl | (simp [errW_none, errW_some] <;> rfl) | (simp [*, errW_none, errW_some] <;> rfl), by repeat (first | (with_reducible first | exact HB.out | apply below_alloc | apply pw_below_drewN | apply below_drew1 | refine below_set ?_ GE406.out) | exact HB.out)⟩

end Go.Proofs.Ythlelhndmnkmjaa.Pr
