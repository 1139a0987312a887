-- printed by xprint.py
import Derived.Test.YtnfliommpdjlkaaPr0
import Derived.Test.YtnfliommpdjlkaaPrf45
import Derived.Test.YtnfliommpdjlkaaPrf48
import Derived.Test.YtnfliommpdjlkaaPrf46
import Derived.Test.YtnfliommpdjlkaaThy
namespace Go.Proofs.Ytnfliommpdjlkaa.Pr
open Go.RowKit Go.Proofs.YtnfliommpdjlkaaW PrintWords PrintLast PrintMore
set_option linter.unusedVariables false
set_option linter.unusedSimpArgs false

/-! ### zone_ordered: function 49 -/
def zone_ordered.j0 : Nat → Bool → Int → ByteArray → Bool → Int → ByteArray → Option (Bool × Bool × Bool × Int × ByteArray × Bool × Int × ByteArray)
 | 0, _, _, _, _, _, _ => none
 | k + 1, x135000, x135001, x135002, x136000, x136001, x136002 => (zone_span_c.f x135000 x135001 x135002 x136000 x136001 x136002).bind fun bt137 => (some (bt137.1, bt137.2.1, bt137.2.2.1, bt137.2.2.2.1, bt137.2.2.2.2.1, bt137.2.2.2.2.2.1, bt137.2.2.2.2.2.2.1, bt137.2.2.2.2.2.2.2))
def zone_ordered.f (k : Nat) (a0_0 : Bool) (a0_1 : Bool) (a0_2 : Bool) (a0_3 : Int) (a0_4 : ByteArray) (a0_5 : Bool) (a0_6 : Int) (a0_7 : ByteArray) : Option (Bool × Bool × Bool × Int × ByteArray × Bool × Int × ByteArray) := (zone_solid.f a0_2 a0_3 a0_4).bind fun bt128 => ((zone_solid.f a0_5 a0_6 a0_7).bind fun bt131 => ((kinds_Compare_c.f bt128.1 bt128.2.1 bt128.2.2 bt131.1 bt131.2.1 bt131.2.2).bind fun t136 => (if t136 > 0 then (zone_ordered.j0 k bt131.1 bt131.2.1 bt131.2.2 bt128.1 bt128.2.1 bt128.2.2) else (zone_ordered.j0 k bt128.1 bt128.2.1 bt128.2.2 bt131.1 bt131.2.1 bt131.2.2))))
theorem zone_ordered.mono_l : ∀ k, (∀ y0 y1 y2 y3 y4 y5, LeO (zone_ordered.j0 k y0 y1 y2 y3 y4 y5) (zone_ordered.j0 (k + 1) y0 y1 y2 y3 y4 y5))
 | 0 => fun _ _ _ _ _ _ r h => by simp [zone_ordered.j0] at h
 | k + 1 => by
  have ih0 := zone_ordered.mono_l k
  ·intro y0 y1 y2 y3 y4 y5
   unfold zone_ordered.j0
   repeat' first
   | (with_reducible exact ih0 _ _ _ _ _ _)
   | (with_reducible exact LeO.refl _)
   | (with_reducible exact LeO.none _)
   | (with_reducible refine LeO.ite ?_ ?_)
   | (with_reducible refine LeO.bind ?_ (fun _ => ?_))
theorem zone_ordered.mono : ∀ a0 a1 a2 a3 a4 a5 a6 a7 k, LeO (zone_ordered.f k a0 a1 a2 a3 a4 a5 a6 a7) (zone_ordered.f (k + 1) a0 a1 a2 a3 a4 a5 a6 a7) := by
 intro a0 a1 a2 a3 a4 a5 a6 a7 k
 have ih0 := zone_ordered.mono_l k
 unfold zone_ordered.f
 repeat' first
   | (with_reducible exact ih0 _ _ _ _ _ _)
   | (with_reducible exact LeO.refl _)
   | (with_reducible exact LeO.none _)
   | (with_reducible refine LeO.ite ?_ ?_)
   | (with_reducible refine LeO.bind ?_ (fun _ => ?_))
def zone_ordered.T1 : Bool × List (List Nat × List Nat) := (true, [([], []), ([0], [0]), ([1], [1]), ([], []), ([3], [3]), ([4, 2], [4]), ([], []), ([], []), ([6, 2, 5, 0, 1, 2, 6, 7], [2, 6]), ([7, 5, 8, 0, 1, 2, 3, 4, 5, 6, 7, 8], [5, 7])])
def zone_ordered.B1 : List Nat := [0, 1, 3, 0, 8, 31, 0, 0, 255, 511]
theorem zone_ordered.tab1 : rtab .any (opsOf Try.f49 1) = zone_ordered.T1 := by kernel_rfl
theorem zone_ordered.bits1 : waitsOk zone_ordered.T1.2 zone_ordered.B1 = true := by kernel_rfl
set_option maxHeartbeats 8000000 in
set_option maxRecDepth 100000 in
theorem zone_ordered.calls (k : Nat) (a0_0 : Bool) (a0_1 : Bool) (a0_2 : Bool) (a0_3 : Int) (a0_4 : ByteArray) (a0_5 : Bool) (a0_6 : Int) (a0_7 : ByteArray) (r1 : Bool) (r2 : Bool) (r3 : Bool) (r4 : Int) (r5 : ByteArray) (r6 : Bool) (r7 : Int) (r8 : ByteArray) (w : World) (h : zone_ordered.f k a0_0 a0_1 a0_2 a0_3 a0_4 a0_5 a0_6 a0_7 = some (r1, r2, r3, r4, r5, r6, r7, r8)) :
  Calls Try.prog 49 #[.agg #[.bool a0_0, .bool a0_1, .bool a0_2, .int .i64 a0_3, .string a0_4, .bool a0_5, .int .i64 a0_6, .string a0_7]] w fun e w' => e = .returned (.agg #[.bool r1, .bool r2, .bool r3, .int .i64 r4, .string r5, .bool r6, .int .i64 r7, .string r8]) ∧ Below w.heap.size w w' := by
 have hu41 := Try.underlying41
 have hu27 := Try.underlying27
 have HB := Aside0.mk (Below.refl w.heap.size w)
 have H : ((zone_solid.f a0_2 a0_3 a0_4).bind fun bt128 => ((zone_solid.f a0_5 a0_6 a0_7).bind fun bt131 => ((kinds_Compare_c.f bt128.1 bt128.2.1 bt128.2.2 bt131.1 bt131.2.1 bt131.2.2).bind fun t136 => (if t136 > 0 then (zone_ordered.j0 k bt131.1 bt131.2.1 bt131.2.2 bt128.1 bt128.2.1 bt128.2.2) else (zone_ordered.j0 k bt128.1 bt128.2.1 bt128.2.2 bt131.1 bt131.2.1 bt131.2.2))))) = some (r1, r2, r3, r4, r5, r6, r7, r8) := h
 clear h
 replace H := Option.bind_eq_some_iff.mp H
 obtain ⟨⟨t128, t129, t130⟩, A20, H⟩ := H
 replace H : ((zone_solid.f a0_5 a0_6 a0_7).bind fun bt131 => ((kinds_Compare_c.f t128 t129 t130 bt131.1 bt131.2.1 bt131.2.2).bind fun t136 => (if t136 > 0 then (zone_ordered.j0 k bt131.1 bt131.2.1 bt131.2.2 t128 t129 t130) else (zone_ordered.j0 k t128 t129 t130 bt131.1 bt131.2.1 bt131.2.2)))) = some (r1, r2, r3, r4, r5, r6, r7, r8) := H
 have A2 := Aside0.mk A20
 clear A20
 replace H := Option.bind_eq_some_iff.mp H
 obtain ⟨⟨t131, t132, t133⟩, A30, H⟩ := H
 replace H : ((kinds_Compare_c.f t128 t129 t130 t131 t132 t133).bind fun t136 => (if t136 > 0 then (zone_ordered.j0 k t131 t132 t133 t128 t129 t130) else (zone_ordered.j0 k t128 t129 t130 t131 t132 t133))) = some (r1, r2, r3, r4, r5, r6, r7, r8) := H
 have A3 := Aside0.mk A30
 clear A30
 replace H := Option.bind_eq_some_iff.mp H
 obtain ⟨t136, A40, H⟩ := H
 replace H : (if t136 > 0 then (zone_ordered.j0 k t131 t132 t133 t128 t129 t130) else (zone_ordered.j0 k t128 t129 t130 t131 t132 t133)) = some (r1, r2, r3, r4, r5, r6, r7, r8) := H
 have A4 := Aside0.mk A40
 clear A40
 have HC5 := Aside0.mk H
 clear H
 go_enter Try.func49, Try.ntmps49
 try go_wp2_with (first | ((with_reducible refine gate_dst (N := 1) rfl ?_); refine box_event ?hg (N := 1) ?hd (cs := #[.bool a0_0, .bool a0_1, .bool a0_2, .int .i64 a0_3, .string a0_4, .bool a0_5, .int .i64 a0_6, .string a0_7]) (t := 41) ?hr ?_; (case hd => rfl); (case hg => rfl); (case hr => first | (go_simp; done) | (go_simp; rfl)); intro gb126 hg w6 hbox hb; have n0_ := Aside0.mk (below_step (by with_reducible repeat first | exact HB.out | apply below_alloc | apply pw_below_drewN | apply below_drew1) hb); have n1_ := Aside0.mk (hbox); have n2_ := Aside0.mk ((by rw [hg]; exact (below_size (by with_reducible repeat first | exact HB.out | apply below_alloc | apply pw_below_drewN | apply below_drew1)) : w.heap.size ≤ gb126)); have n3_ := Aside0.mk ((by rw [hg]; exact (below_size (by with_reducible repeat first | exact HB.out | apply below_alloc | apply pw_below_drewN | apply below_drew1)) : w.heap.size ≤ gb126)); clear HB; have HB := n0_; have BK126 := n1_; have GW126 := n2_; have GE126 := n3_; clear n0_ n1_ n2_ n3_; clear hb hbox hg) | ((with_reducible refine gate_dst (N := 2) rfl ?_); refine box_event ?hg (N := 2) ?hd (cs := #[.bool false, .bool false, .bool false, .int .i64 0, .string (⟨#[]⟩ : ByteArray), .bool false, .int .i64 0, .string (⟨#[]⟩ : ByteArray)]) (t := 41) ?hr ?_; (case hd => rfl); (case hg => rfl); (case hr => first | (go_simp; done) | (go_simp; rfl)); intro gb127 hg w7 hbox hb; have n0_ := Aside0.mk (blk_below (g := gb126) (o := .cells #[.bool a0_0, .bool a0_1, .bool a0_2, .int .i64 a0_3, .string a0_4, .bool a0_5, .int .i64 a0_6, .string a0_7] 41 (0, 0)) (by (with_reducible repeat (first | refine blk_drewN ?_ _ | refine blk_drew ?_ | refine blk_alloc ?_ _)); exact BK126.out) hb); have n1_ := Aside0.mk (below_step (by with_reducible repeat first | exact HB.out | apply below_alloc | apply pw_below_drewN | apply below_drew1 | refine below_set ?_ GE126.out) hb); have n2_ := Aside0.mk (hbox); have n3_ := Aside0.mk ((by rw [hg]; exact (below_size (by with_reducible repeat first | exact HB.out | apply below_alloc | apply pw_below_drewN | apply below_drew1 | refine below_set ?_ GE126.out)) : w.heap.size ≤ gb127)); have n4_ := Aside0.mk ((by rw [hg]; exact (below_size (by with_reducible repeat first | exact HB.out | apply below_alloc | apply pw_below_drewN | apply below_drew1 | refine below_set ?_ GE126.out)) : w.heap.size ≤ gb127)); have n5_ := Aside0.mk ((by rw [hg]; exact Nat.ne_of_lt (blk_lt (g := gb126) (o := .cells #[.bool a0_0, .bool a0_1, .bool a0_2, .int .i64 a0_3, .string a0_4, .bool a0_5, .int .i64 a0_6, .string a0_7] 41 (0, 0)) (by (with_reducible repeat (first | refine blk_drewN ?_ _ | refine blk_drew ?_ | refine blk_alloc ?_ _)); exact BK126.out)) : gb126 ≠ gb127)); have n6_ := Aside0.mk ((by rw [hg]; exact Nat.ne_of_gt (blk_lt (g := gb126) (o := .cells #[.bool a0_0, .bool a0_1, .bool a0_2, .int .i64 a0_3, .string a0_4, .bool a0_5, .int .i64 a0_6, .string a0_7] 41 (0, 0)) (by (with_reducible repeat (first | refine blk_drewN ?_ _ | refine blk_drew ?_ | refine blk_alloc ?_ _)); exact BK126.out)) : gb127 ≠ gb126)); clear BK126; clear HB; have BK126 := n0_; have HB := n1_; have BK127 := n2_; have GW127 := n3_; have GE127 := n4_; have NB126_127 := n5_; have NB127_126 := n6_; clear n0_ n1_ n2_ n3_ n4_ n5_ n6_; clear hb hbox hg))
 have n0_ := Aside0.mk (blk_drew BK126.out)
 have n1_ := Aside0.mk (blk_drew BK127.out)
 have n2_ := Aside0.mk (below_drew1 HB.out)
 clear BK126
 clear BK127
 clear HB
 have BK126 := n0_
 have BK127 := n1_
 have HB := n2_
 clear n0_ n1_ n2_
 refine start_ (n := 10) (S := fun w' => w'.cell? ⟨gb126, 0, none⟩ = some (.bool a0_0) ∧ w'.cell? ⟨gb126, 1, none⟩ = some (.bool a0_1) ∧ w'.cell? ⟨gb126, 2, none⟩ = some (.bool a0_2) ∧ w'.cell? ⟨gb126, 3, none⟩ = some (.int .i64 a0_3) ∧ w'.cell? ⟨gb126, 4, none⟩ = some (.string a0_4) ∧ w'.cell? ⟨gb126, 5, none⟩ = some (.bool a0_5) ∧ w'.cell? ⟨gb126, 6, none⟩ = some (.int .i64 a0_6) ∧ w'.cell? ⟨gb126, 7, none⟩ = some (.string a0_7)) (ds := []) #[false, false, false, false, false, false, false, false, false, false] (by kernel_rfl) rfl rfl ⟨(blk_cell BK126.out 0).trans rfl, (blk_cell BK126.out 1).trans rfl, (blk_cell BK126.out 2).trans rfl, (blk_cell BK126.out 3).trans rfl, (blk_cell BK126.out 4).trans rfl, (blk_cell BK126.out 5).trans rfl, (blk_cell BK126.out 6).trans rfl, (blk_cell BK126.out 7).trans rfl⟩ (fun hHeld => ?_); refine with_tabW zone_ordered.tab1 zone_ordered.bits1 (fun HT_ HW_ => ?_)
 generalize w7.drew = w8 at BK126 BK127 HB hHeld ⊢
 refine pure_ (i := 0) (N := some 5) (v := ?_) (a' := ?_) #[true, false, false, false, false, false, false, false, false, false] rfl rfl (any_of HT_.out (by kernel_rfl)) (fun _ _ _ h => h) (Or.inl ⟨by rfl, ?_⟩) ?_ ?_
 rotate_left
 ·intro w'
  go_simp
  with_reducible rfl
 rotate_left
 ·simp only [Act.put, List.setIfInBounds_toArray, List.set_cons_zero, List.set_cons_succ, i64_w, i32_w]
  rfl
 refine pure_ (i := 3) (N := some 8) (v := ?_) (a' := ?_) #[true, false, false, true, false, false, false, false, false, false] rfl rfl (any_of HT_.out (by kernel_rfl)) (fun _ _ _ h => h) (Or.inl ⟨by rfl, ?_⟩) ?_ ?_
 rotate_left
 ·intro w'
  go_simp
  with_reducible rfl
 rotate_left
 ·simp only [Act.put, List.setIfInBounds_toArray, List.set_cons_zero, List.set_cons_succ, i64_w, i32_w]
  rfl
 refine take_ (i := 1) (N := some 6) (v := ?_) (a' := ?_) #[true, true, false, true, false, false, false, false, false, false] rfl rfl (take_ofW HT_.out HW_.out (by kernel_rfl)) (fun _ _ _ h => h) (Or.inl ⟨by rfl, ?_⟩) hHeld ?_ ?_
 rotate_left
 ·rintro w' ⟨s0, s1, s2, s3, s4, s5, s6, s7⟩
  go_simp
  with_reducible rfl
 rotate_left
 ·simp only [Act.put, List.setIfInBounds_toArray, List.set_cons_zero, List.set_cons_succ, i64_w, i32_w]
  rfl
 refine take_ (i := 4) (N := some 9) (v := ?_) (a' := ?_) #[true, true, false, true, true, false, false, false, false, false] rfl rfl (take_ofW HT_.out HW_.out (by kernel_rfl)) (fun _ _ _ h => h) (Or.inl ⟨by rfl, ?_⟩) hHeld ?_ ?_
 rotate_left
 ·rintro w' ⟨s0, s1, s2, s3, s4, s5, s6, s7⟩
  go_simp
  with_reducible rfl
 rotate_left
 ·simp only [Act.put, List.setIfInBounds_toArray, List.set_cons_zero, List.set_cons_succ, i64_w, i32_w]
  rfl
 refine join_ (σ := Nat × Nat) 2 #[true, true, true, true, true, true, true, true, false, false] (fun s_ => [(7, .agg #[.bool t128, .int .i64 t129, .string t130]), (10, .agg #[.bool t131, .int .i64 t132, .string t133]), (3, .pointer (some ⟨s_.1, 0, none⟩)), (4, .pointer (some ⟨s_.2, 0, none⟩))]) (fun s_ w' => (w'.cell? ⟨gb126, 0, none⟩ = some (.bool a0_0) ∧ w'.cell? ⟨gb126, 1, none⟩ = some (.bool a0_1) ∧ w'.cell? ⟨gb126, 2, none⟩ = some (.bool a0_2) ∧ w'.cell? ⟨gb126, 3, none⟩ = some (.int .i64 a0_3) ∧ w'.cell? ⟨gb126, 4, none⟩ = some (.string a0_4) ∧ w'.cell? ⟨gb126, 5, none⟩ = some (.bool a0_5) ∧ w'.cell? ⟨gb126, 6, none⟩ = some (.int .i64 a0_6) ∧ w'.cell? ⟨gb126, 7, none⟩ = some (.string a0_7)) ∧ (w'.heap[gb126]? = some (.cells #[.bool a0_0, .bool a0_1, .bool a0_2, .int .i64 a0_3, .string a0_4, .bool a0_5, .int .i64 a0_6, .string a0_7] 41 (0, 0))) ∧ (w'.heap[gb127]? = some (.cells #[.bool false, .bool false, .bool false, .int .i64 0, .string (⟨#[]⟩ : ByteArray), .bool false, .int .i64 0, .string (⟨#[]⟩ : ByteArray)] 41 (0, 0))) ∧ (w'.heap[s_.1]? = some (.cells #[.bool false, .int .i64 0, .string (⟨#[]⟩ : ByteArray)] 27 (0, 0))) ∧ (w'.heap[s_.2]? = some (.cells #[.bool false, .int .i64 0, .string (⟨#[]⟩ : ByteArray)] 27 (0, 0))) ∧ (w.heap.size ≤ s_.1) ∧ (w.heap.size ≤ s_.1) ∧ (gb126 ≠ s_.1) ∧ (s_.1 ≠ gb126) ∧ (gb127 ≠ s_.1) ∧ (s_.1 ≠ gb127) ∧ (s_.2 ≠ s_.1) ∧ (s_.1 ≠ s_.2) ∧ (w.heap.size ≤ s_.2) ∧ (w.heap.size ≤ s_.2) ∧ (gb126 ≠ s_.2) ∧ (s_.2 ≠ gb126) ∧ (gb127 ≠ s_.2) ∧ (s_.2 ≠ gb127) ∧ (Below w.heap.size w w')) ?_ ?_
 rotate_left
 ·intro hJ2_5_6_7
  refine join_ (σ := Nat) 3 #[true, true, true, true, true, true, true, false, false, false] (fun s_ => [(7, .agg #[.bool t128, .int .i64 t129, .string t130]), (10, .agg #[.bool t131, .int .i64 t132, .string t133]), (3, .pointer (some ⟨s_, 0, none⟩))]) (fun s_ w' => (w'.cell? ⟨gb126, 0, none⟩ = some (.bool a0_0) ∧ w'.cell? ⟨gb126, 1, none⟩ = some (.bool a0_1) ∧ w'.cell? ⟨gb126, 2, none⟩ = some (.bool a0_2) ∧ w'.cell? ⟨gb126, 3, none⟩ = some (.int .i64 a0_3) ∧ w'.cell? ⟨gb126, 4, none⟩ = some (.string a0_4) ∧ w'.cell? ⟨gb126, 5, none⟩ = some (.bool a0_5) ∧ w'.cell? ⟨gb126, 6, none⟩ = some (.int .i64 a0_6) ∧ w'.cell? ⟨gb126, 7, none⟩ = some (.string a0_7)) ∧ (w'.heap[gb126]? = some (.cells #[.bool a0_0, .bool a0_1, .bool a0_2, .int .i64 a0_3, .string a0_4, .bool a0_5, .int .i64 a0_6, .string a0_7] 41 (0, 0))) ∧ (w'.heap[gb127]? = some (.cells #[.bool false, .bool false, .bool false, .int .i64 0, .string (⟨#[]⟩ : ByteArray), .bool false, .int .i64 0, .string (⟨#[]⟩ : ByteArray)] 41 (0, 0))) ∧ (w'.heap[s_]? = some (.cells #[.bool false, .int .i64 0, .string (⟨#[]⟩ : ByteArray)] 27 (0, 0))) ∧ (w.heap.size ≤ s_) ∧ (w.heap.size ≤ s_) ∧ (gb126 ≠ s_) ∧ (s_ ≠ gb126) ∧ (gb127 ≠ s_) ∧ (s_ ≠ gb127) ∧ (Below w.heap.size w w')) ?_ ?_
  rotate_left
  ·intro hJ2_5_6
   refine join_ (σ := Nat) 3 #[true, true, true, true, true, true, false, true, false, false] (fun s_ => [(7, .agg #[.bool t128, .int .i64 t129, .string t130]), (10, .agg #[.bool t131, .int .i64 t132, .string t133]), (4, .pointer (some ⟨s_, 0, none⟩))]) (fun s_ w' => (w'.cell? ⟨gb126, 0, none⟩ = some (.bool a0_0) ∧ w'.cell? ⟨gb126, 1, none⟩ = some (.bool a0_1) ∧ w'.cell? ⟨gb126, 2, none⟩ = some (.bool a0_2) ∧ w'.cell? ⟨gb126, 3, none⟩ = some (.int .i64 a0_3) ∧ w'.cell? ⟨gb126, 4, none⟩ = some (.string a0_4) ∧ w'.cell? ⟨gb126, 5, none⟩ = some (.bool a0_5) ∧ w'.cell? ⟨gb126, 6, none⟩ = some (.int .i64 a0_6) ∧ w'.cell? ⟨gb126, 7, none⟩ = some (.string a0_7)) ∧ (w'.heap[gb126]? = some (.cells #[.bool a0_0, .bool a0_1, .bool a0_2, .int .i64 a0_3, .string a0_4, .bool a0_5, .int .i64 a0_6, .string a0_7] 41 (0, 0))) ∧ (w'.heap[gb127]? = some (.cells #[.bool false, .bool false, .bool false, .int .i64 0, .string (⟨#[]⟩ : ByteArray), .bool false, .int .i64 0, .string (⟨#[]⟩ : ByteArray)] 41 (0, 0))) ∧ (w'.heap[s_]? = some (.cells #[.bool false, .int .i64 0, .string (⟨#[]⟩ : ByteArray)] 27 (0, 0))) ∧ (w.heap.size ≤ s_) ∧ (w.heap.size ≤ s_) ∧ (gb126 ≠ s_) ∧ (s_ ≠ gb126) ∧ (gb127 ≠ s_) ∧ (s_ ≠ gb127) ∧ (Below w.heap.size w w')) ?_ ?_
   rotate_left
   ·intro hJ2_5_7
    refine join_ (σ := Nat × Nat) 3 #[true, true, true, true, true, false, true, true, false, false] (fun s_ => [(7, .agg #[.bool t128, .int .i64 t129, .string t130]), (3, .pointer (some ⟨s_.1, 0, none⟩)), (4, .pointer (some ⟨s_.2, 0, none⟩))]) (fun s_ w' => (w'.cell? ⟨gb126, 0, none⟩ = some (.bool a0_0) ∧ w'.cell? ⟨gb126, 1, none⟩ = some (.bool a0_1) ∧ w'.cell? ⟨gb126, 2, none⟩ = some (.bool a0_2) ∧ w'.cell? ⟨gb126, 3, none⟩ = some (.int .i64 a0_3) ∧ w'.cell? ⟨gb126, 4, none⟩ = some (.string a0_4) ∧ w'.cell? ⟨gb126, 5, none⟩ = some (.bool a0_5) ∧ w'.cell? ⟨gb126, 6, none⟩ = some (.int .i64 a0_6) ∧ w'.cell? ⟨gb126, 7, none⟩ = some (.string a0_7)) ∧ (w'.heap[gb126]? = some (.cells #[.bool a0_0, .bool a0_1, .bool a0_2, .int .i64 a0_3, .string a0_4, .bool a0_5, .int .i64 a0_6, .string a0_7] 41 (0, 0))) ∧ (w'.heap[gb127]? = some (.cells #[.bool false, .bool false, .bool false, .int .i64 0, .string (⟨#[]⟩ : ByteArray), .bool false, .int .i64 0, .string (⟨#[]⟩ : ByteArray)] 41 (0, 0))) ∧ (w'.heap[s_.1]? = some (.cells #[.bool false, .int .i64 0, .string (⟨#[]⟩ : ByteArray)] 27 (0, 0))) ∧ (w'.heap[s_.2]? = some (.cells #[.bool false, .int .i64 0, .string (⟨#[]⟩ : ByteArray)] 27 (0, 0))) ∧ (w.heap.size ≤ s_.1) ∧ (w.heap.size ≤ s_.1) ∧ (gb126 ≠ s_.1) ∧ (s_.1 ≠ gb126) ∧ (gb127 ≠ s_.1) ∧ (s_.1 ≠ gb127) ∧ (s_.2 ≠ s_.1) ∧ (s_.1 ≠ s_.2) ∧ (w.heap.size ≤ s_.2) ∧ (w.heap.size ≤ s_.2) ∧ (gb126 ≠ s_.2) ∧ (s_.2 ≠ gb126) ∧ (gb127 ≠ s_.2) ∧ (s_.2 ≠ gb127) ∧ (Below w.heap.size w w')) ?_ ?_
    rotate_left
    ·intro hJ2_6_7
     refine join_ (σ := Unit) 4 #[true, true, true, true, true, true, false, false, false, false] (fun s_ => [(7, .agg #[.bool t128, .int .i64 t129, .string t130]), (10, .agg #[.bool t131, .int .i64 t132, .string t133])]) (fun s_ w' => (w'.cell? ⟨gb126, 0, none⟩ = some (.bool a0_0) ∧ w'.cell? ⟨gb126, 1, none⟩ = some (.bool a0_1) ∧ w'.cell? ⟨gb126, 2, none⟩ = some (.bool a0_2) ∧ w'.cell? ⟨gb126, 3, none⟩ = some (.int .i64 a0_3) ∧ w'.cell? ⟨gb126, 4, none⟩ = some (.string a0_4) ∧ w'.cell? ⟨gb126, 5, none⟩ = some (.bool a0_5) ∧ w'.cell? ⟨gb126, 6, none⟩ = some (.int .i64 a0_6) ∧ w'.cell? ⟨gb126, 7, none⟩ = some (.string a0_7)) ∧ (w'.heap[gb126]? = some (.cells #[.bool a0_0, .bool a0_1, .bool a0_2, .int .i64 a0_3, .string a0_4, .bool a0_5, .int .i64 a0_6, .string a0_7] 41 (0, 0))) ∧ (w'.heap[gb127]? = some (.cells #[.bool false, .bool false, .bool false, .int .i64 0, .string (⟨#[]⟩ : ByteArray), .bool false, .int .i64 0, .string (⟨#[]⟩ : ByteArray)] 41 (0, 0))) ∧ (Below w.heap.size w w')) ?_ ?_
     rotate_left
     ·intro hJ2_5
      refine join_ (σ := Nat) 4 #[true, true, true, true, true, false, true, false, false, false] (fun s_ => [(7, .agg #[.bool t128, .int .i64 t129, .string t130]), (3, .pointer (some ⟨s_, 0, none⟩))]) (fun s_ w' => (w'.cell? ⟨gb126, 0, none⟩ = some (.bool a0_0) ∧ w'.cell? ⟨gb126, 1, none⟩ = some (.bool a0_1) ∧ w'.cell? ⟨gb126, 2, none⟩ = some (.bool a0_2) ∧ w'.cell? ⟨gb126, 3, none⟩ = some (.int .i64 a0_3) ∧ w'.cell? ⟨gb126, 4, none⟩ = some (.string a0_4) ∧ w'.cell? ⟨gb126, 5, none⟩ = some (.bool a0_5) ∧ w'.cell? ⟨gb126, 6, none⟩ = some (.int .i64 a0_6) ∧ w'.cell? ⟨gb126, 7, none⟩ = some (.string a0_7)) ∧ (w'.heap[gb126]? = some (.cells #[.bool a0_0, .bool a0_1, .bool a0_2, .int .i64 a0_3, .string a0_4, .bool a0_5, .int .i64 a0_6, .string a0_7] 41 (0, 0))) ∧ (w'.heap[gb127]? = some (.cells #[.bool false, .bool false, .bool false, .int .i64 0, .string (⟨#[]⟩ : ByteArray), .bool false, .int .i64 0, .string (⟨#[]⟩ : ByteArray)] 41 (0, 0))) ∧ (w'.heap[s_]? = some (.cells #[.bool false, .int .i64 0, .string (⟨#[]⟩ : ByteArray)] 27 (0, 0))) ∧ (w.heap.size ≤ s_) ∧ (w.heap.size ≤ s_) ∧ (gb126 ≠ s_) ∧ (s_ ≠ gb126) ∧ (gb127 ≠ s_) ∧ (s_ ≠ gb127) ∧ (Below w.heap.size w w')) ?_ ?_
      rotate_left
      ·intro hJ2_6
       refine join_ (σ := Nat) 4 #[true, true, true, true, true, false, false, true, false, false] (fun s_ => [(7, .agg #[.bool t128, .int .i64 t129, .string t130]), (4, .pointer (some ⟨s_, 0, none⟩))]) (fun s_ w' => (w'.cell? ⟨gb126, 0, none⟩ = some (.bool a0_0) ∧ w'.cell? ⟨gb126, 1, none⟩ = some (.bool a0_1) ∧ w'.cell? ⟨gb126, 2, none⟩ = some (.bool a0_2) ∧ w'.cell? ⟨gb126, 3, none⟩ = some (.int .i64 a0_3) ∧ w'.cell? ⟨gb126, 4, none⟩ = some (.string a0_4) ∧ w'.cell? ⟨gb126, 5, none⟩ = some (.bool a0_5) ∧ w'.cell? ⟨gb126, 6, none⟩ = some (.int .i64 a0_6) ∧ w'.cell? ⟨gb126, 7, none⟩ = some (.string a0_7)) ∧ (w'.heap[gb126]? = some (.cells #[.bool a0_0, .bool a0_1, .bool a0_2, .int .i64 a0_3, .string a0_4, .bool a0_5, .int .i64 a0_6, .string a0_7] 41 (0, 0))) ∧ (w'.heap[gb127]? = some (.cells #[.bool false, .bool false, .bool false, .int .i64 0, .string (⟨#[]⟩ : ByteArray), .bool false, .int .i64 0, .string (⟨#[]⟩ : ByteArray)] 41 (0, 0))) ∧ (w'.heap[s_]? = some (.cells #[.bool false, .int .i64 0, .string (⟨#[]⟩ : ByteArray)] 27 (0, 0))) ∧ (w.heap.size ≤ s_) ∧ (w.heap.size ≤ s_) ∧ (gb126 ≠ s_) ∧ (s_ ≠ gb126) ∧ (gb127 ≠ s_) ∧ (s_ ≠ gb127) ∧ (Below w.heap.size w w')) ?_ ?_
       rotate_left
       ·intro hJ2_7
        refine join_ (σ := Nat × Nat) 4 #[true, true, false, true, true, false, true, true, false, false] (fun s_ => [(3, .pointer (some ⟨s_.1, 0, none⟩)), (4, .pointer (some ⟨s_.2, 0, none⟩))]) (fun s_ w' => (w'.cell? ⟨gb126, 0, none⟩ = some (.bool a0_0) ∧ w'.cell? ⟨gb126, 1, none⟩ = some (.bool a0_1) ∧ w'.cell? ⟨gb126, 2, none⟩ = some (.bool a0_2) ∧ w'.cell? ⟨gb126, 3, none⟩ = some (.int .i64 a0_3) ∧ w'.cell? ⟨gb126, 4, none⟩ = some (.string a0_4) ∧ w'.cell? ⟨gb126, 5, none⟩ = some (.bool a0_5) ∧ w'.cell? ⟨gb126, 6, none⟩ = some (.int .i64 a0_6) ∧ w'.cell? ⟨gb126, 7, none⟩ = some (.string a0_7)) ∧ (w'.heap[gb126]? = some (.cells #[.bool a0_0, .bool a0_1, .bool a0_2, .int .i64 a0_3, .string a0_4, .bool a0_5, .int .i64 a0_6, .string a0_7] 41 (0, 0))) ∧ (w'.heap[gb127]? = some (.cells #[.bool false, .bool false, .bool false, .int .i64 0, .string (⟨#[]⟩ : ByteArray), .bool false, .int .i64 0, .string (⟨#[]⟩ : ByteArray)] 41 (0, 0))) ∧ (w'.heap[s_.1]? = some (.cells #[.bool false, .int .i64 0, .string (⟨#[]⟩ : ByteArray)] 27 (0, 0))) ∧ (w'.heap[s_.2]? = some (.cells #[.bool false, .int .i64 0, .string (⟨#[]⟩ : ByteArray)] 27 (0, 0))) ∧ (w.heap.size ≤ s_.1) ∧ (w.heap.size ≤ s_.1) ∧ (gb126 ≠ s_.1) ∧ (s_.1 ≠ gb126) ∧ (gb127 ≠ s_.1) ∧ (s_.1 ≠ gb127) ∧ (s_.2 ≠ s_.1) ∧ (s_.1 ≠ s_.2) ∧ (w.heap.size ≤ s_.2) ∧ (w.heap.size ≤ s_.2) ∧ (gb126 ≠ s_.2) ∧ (s_.2 ≠ gb126) ∧ (gb127 ≠ s_.2) ∧ (s_.2 ≠ gb127) ∧ (Below w.heap.size w w')) ?_ ?_
        rotate_left
        ·intro hJ6_7
         refine join_ (σ := Unit) 5 #[true, true, true, true, true, false, false, false, false, false] (fun s_ => [(7, .agg #[.bool t128, .int .i64 t129, .string t130])]) (fun s_ w' => (w'.cell? ⟨gb126, 0, none⟩ = some (.bool a0_0) ∧ w'.cell? ⟨gb126, 1, none⟩ = some (.bool a0_1) ∧ w'.cell? ⟨gb126, 2, none⟩ = some (.bool a0_2) ∧ w'.cell? ⟨gb126, 3, none⟩ = some (.int .i64 a0_3) ∧ w'.cell? ⟨gb126, 4, none⟩ = some (.string a0_4) ∧ w'.cell? ⟨gb126, 5, none⟩ = some (.bool a0_5) ∧ w'.cell? ⟨gb126, 6, none⟩ = some (.int .i64 a0_6) ∧ w'.cell? ⟨gb126, 7, none⟩ = some (.string a0_7)) ∧ (w'.heap[gb126]? = some (.cells #[.bool a0_0, .bool a0_1, .bool a0_2, .int .i64 a0_3, .string a0_4, .bool a0_5, .int .i64 a0_6, .string a0_7] 41 (0, 0))) ∧ (w'.heap[gb127]? = some (.cells #[.bool false, .bool false, .bool false, .int .i64 0, .string (⟨#[]⟩ : ByteArray), .bool false, .int .i64 0, .string (⟨#[]⟩ : ByteArray)] 41 (0, 0))) ∧ (Below w.heap.size w w')) ?_ ?_
         rotate_left
         ·intro hJ2
          refine join_ (σ := Nat) 5 #[true, true, false, true, true, false, true, false, false, false] (fun s_ => [(3, .pointer (some ⟨s_, 0, none⟩))]) (fun s_ w' => (w'.cell? ⟨gb126, 0, none⟩ = some (.bool a0_0) ∧ w'.cell? ⟨gb126, 1, none⟩ = some (.bool a0_1) ∧ w'.cell? ⟨gb126, 2, none⟩ = some (.bool a0_2) ∧ w'.cell? ⟨gb126, 3, none⟩ = some (.int .i64 a0_3) ∧ w'.cell? ⟨gb126, 4, none⟩ = some (.string a0_4) ∧ w'.cell? ⟨gb126, 5, none⟩ = some (.bool a0_5) ∧ w'.cell? ⟨gb126, 6, none⟩ = some (.int .i64 a0_6) ∧ w'.cell? ⟨gb126, 7, none⟩ = some (.string a0_7)) ∧ (w'.heap[gb126]? = some (.cells #[.bool a0_0, .bool a0_1, .bool a0_2, .int .i64 a0_3, .string a0_4, .bool a0_5, .int .i64 a0_6, .string a0_7] 41 (0, 0))) ∧ (w'.heap[gb127]? = some (.cells #[.bool false, .bool false, .bool false, .int .i64 0, .string (⟨#[]⟩ : ByteArray), .bool false, .int .i64 0, .string (⟨#[]⟩ : ByteArray)] 41 (0, 0))) ∧ (w'.heap[s_]? = some (.cells #[.bool false, .int .i64 0, .string (⟨#[]⟩ : ByteArray)] 27 (0, 0))) ∧ (w.heap.size ≤ s_) ∧ (w.heap.size ≤ s_) ∧ (gb126 ≠ s_) ∧ (s_ ≠ gb126) ∧ (gb127 ≠ s_) ∧ (s_ ≠ gb127) ∧ (Below w.heap.size w w')) ?_ ?_
          rotate_left
          ·intro hJ6
           refine join_ (σ := Nat) 5 #[true, true, false, true, true, false, false, true, false, false] (fun s_ => [(4, .pointer (some ⟨s_, 0, none⟩))]) (fun s_ w' => (w'.cell? ⟨gb126, 0, none⟩ = some (.bool a0_0) ∧ w'.cell? ⟨gb126, 1, none⟩ = some (.bool a0_1) ∧ w'.cell? ⟨gb126, 2, none⟩ = some (.bool a0_2) ∧ w'.cell? ⟨gb126, 3, none⟩ = some (.int .i64 a0_3) ∧ w'.cell? ⟨gb126, 4, none⟩ = some (.string a0_4) ∧ w'.cell? ⟨gb126, 5, none⟩ = some (.bool a0_5) ∧ w'.cell? ⟨gb126, 6, none⟩ = some (.int .i64 a0_6) ∧ w'.cell? ⟨gb126, 7, none⟩ = some (.string a0_7)) ∧ (w'.heap[gb126]? = some (.cells #[.bool a0_0, .bool a0_1, .bool a0_2, .int .i64 a0_3, .string a0_4, .bool a0_5, .int .i64 a0_6, .string a0_7] 41 (0, 0))) ∧ (w'.heap[gb127]? = some (.cells #[.bool false, .bool false, .bool false, .int .i64 0, .string (⟨#[]⟩ : ByteArray), .bool false, .int .i64 0, .string (⟨#[]⟩ : ByteArray)] 41 (0, 0))) ∧ (w'.heap[s_]? = some (.cells #[.bool false, .int .i64 0, .string (⟨#[]⟩ : ByteArray)] 27 (0, 0))) ∧ (w.heap.size ≤ s_) ∧ (w.heap.size ≤ s_) ∧ (gb126 ≠ s_) ∧ (s_ ≠ gb126) ∧ (gb127 ≠ s_) ∧ (s_ ≠ gb127) ∧ (Below w.heap.size w w')) ?_ ?_
           rotate_left
           ·intro hJ7
            refine three_ (i := 2) (j := 6) (k := 7) (Ni := some 7) (Nj := some 3) (Nk := some 4) #[true, true, true, true, true, false, false, false, false, false] #[true, true, false, true, true, false, true, false, false, false] #[true, true, false, true, true, false, false, true, false, false] rfl rfl rfl rfl rfl rfl (three_of HT_.out (by kernel_rfl)) (by decide) (by decide) (by decide) (fun K hK => ?_) (fun K hK => ?_) (fun K hK => ?_)
            ·skip
             refine goes_ Try.func48 (by kernel_rfl) rfl #[.agg #[.bool a0_2, .int .i64 a0_3, .string a0_4]] (by rfl) rfl rfl (by (try simp only [List.map_toArray, List.map_cons, List.map_nil]); first | done | rfl | (simp only [List.length_drop, List.length_take]; rfl)) ?_
             with_reducible refine (zone_solid.calls a0_2 a0_3 a0_4 t128 t129 t130 _ A2.out).mono ?_
             rintro e w9 ⟨rfl, hb⟩
             refine ⟨_, rfl, ?_⟩
             have n0_ := Aside0.mk (blk_below (g := gb126) (o := .cells #[.bool a0_0, .bool a0_1, .bool a0_2, .int .i64 a0_3, .string a0_4, .bool a0_5, .int .i64 a0_6, .string a0_7] 41 (0, 0)) (by (with_reducible repeat (first | refine blk_drewN ?_ _ | refine blk_drew ?_ | refine blk_alloc ?_ _)); exact BK126.out) hb)
             have n1_ := Aside0.mk (blk_below (g := gb127) (o := .cells #[.bool false, .bool false, .bool false, .int .i64 0, .string (⟨#[]⟩ : ByteArray), .bool false, .int .i64 0, .string (⟨#[]⟩ : ByteArray)] 41 (0, 0)) (by (with_reducible repeat (first | refine blk_drewN ?_ _ | refine blk_drew ?_ | refine blk_alloc ?_ _)); exact BK127.out) hb)
             have n2_ := Aside0.mk (below_step (by with_reducible repeat first | exact HB.out | apply below_alloc | apply pw_below_drewN | apply below_drew1 | refine below_set ?_ GE126.out | refine below_set ?_ GE127.out) hb)
             clear BK126
             clear BK127
             clear HB
             have BK126 := n0_
             have BK127 := n1_
             have HB := n2_
             clear n0_ n1_ n2_
             (try clear hb)
             (try clear hb2)
             (try clear hk)
             (try clear hi)
             refine hK.out _ _ ⟨(blk_cell BK126.out 0).trans rfl, (blk_cell BK126.out 1).trans rfl, (blk_cell BK126.out 2).trans rfl, (blk_cell BK126.out 3).trans rfl, (blk_cell BK126.out 4).trans rfl, (blk_cell BK126.out 5).trans rfl, (blk_cell BK126.out 6).trans rfl, (blk_cell BK126.out 7).trans rfl⟩ (fun hHeld => ?_)
             clear hK K
             refine norm_ (a' := ?_) ?_ ?_
             rotate_left
             ·show Act.put _ (some 7) _ = _
              simp only [Act.put, List.setIfInBounds_toArray, List.set_cons_zero, List.set_cons_succ, i64_w, i32_w]
              rfl
             exact norm_ (by first | (simp only [putAll, Act.put, List.setIfInBounds_toArray, List.set_cons_zero, List.set_cons_succ]; done) | (simp only [putAll, Act.put, List.setIfInBounds_toArray, List.set_cons_zero, List.set_cons_succ]; rfl)) (hJ2 () _ ⟨hHeld, (by (with_reducible repeat (first | refine blk_drewN ?_ _ | refine blk_drew ?_ | refine blk_alloc ?_ _)); exact BK126.out), (by (with_reducible repeat (first | refine blk_drewN ?_ _ | refine blk_drew ?_ | refine blk_alloc ?_ _)); exact BK127.out), (by with_reducible repeat first | exact HB.out | apply below_alloc | apply pw_below_drewN | apply below_drew1 | refine below_set ?_ GE126.out | refine below_set ?_ GE127.out)⟩)
            ·skip
             refine box_step ?hg (N := 3) ?hd (cs := #[.bool false, .int .i64 0, .string (⟨#[]⟩ : ByteArray)]) (t := 27) ?hr ?_; (case hd => rfl); (case hg => rfl); (case hr => first | (go_simp; done) | (go_simp; rfl))
             intro gb134 hg w9 hbox hb
             have n0_ := Aside0.mk (blk_below (g := gb126) (o := .cells #[.bool a0_0, .bool a0_1, .bool a0_2, .int .i64 a0_3, .string a0_4, .bool a0_5, .int .i64 a0_6, .string a0_7] 41 (0, 0)) (by (with_reducible repeat (first | refine blk_drewN ?_ _ | refine blk_drew ?_ | refine blk_alloc ?_ _)); exact BK126.out) hb)
             have n1_ := Aside0.mk (blk_below (g := gb127) (o := .cells #[.bool false, .bool false, .bool false, .int .i64 0, .string (⟨#[]⟩ : ByteArray), .bool false, .int .i64 0, .string (⟨#[]⟩ : ByteArray)] 41 (0, 0)) (by (with_reducible repeat (first | refine blk_drewN ?_ _ | refine blk_drew ?_ | refine blk_alloc ?_ _)); exact BK127.out) hb)
             have n2_ := Aside0.mk (below_step (by with_reducible repeat first | exact HB.out | apply below_alloc | apply pw_below_drewN | apply below_drew1 | refine below_set ?_ GE126.out | refine below_set ?_ GE127.out) hb)
             have n3_ := Aside0.mk (hbox)
             have n4_ := Aside0.mk ((by rw [hg]; exact (below_size (by with_reducible repeat first | exact HB.out | apply below_alloc | apply pw_below_drewN | apply below_drew1 | refine below_set ?_ GE126.out | refine below_set ?_ GE127.out)) : w.heap.size ≤ gb134))
             have n5_ := Aside0.mk ((by rw [hg]; exact (below_size (by with_reducible repeat first | exact HB.out | apply below_alloc | apply pw_below_drewN | apply below_drew1 | refine below_set ?_ GE126.out | refine below_set ?_ GE127.out)) : w.heap.size ≤ gb134))
             have n6_ := Aside0.mk ((by rw [hg]; exact Nat.ne_of_lt (blk_lt (g := gb126) (o := .cells #[.bool a0_0, .bool a0_1, .bool a0_2, .int .i64 a0_3, .string a0_4, .bool a0_5, .int .i64 a0_6, .string a0_7] 41 (0, 0)) (by (with_reducible repeat (first | refine blk_drewN ?_ _ | refine blk_drew ?_ | refine blk_alloc ?_ _)); exact BK126.out)) : gb126 ≠ gb134))
             have n7_ := Aside0.mk ((by rw [hg]; exact Nat.ne_of_gt (blk_lt (g := gb126) (o := .cells #[.bool a0_0, .bool a0_1, .bool a0_2, .int .i64 a0_3, .string a0_4, .bool a0_5, .int .i64 a0_6, .string a0_7] 41 (0, 0)) (by (with_reducible repeat (first | refine blk_drewN ?_ _ | refine blk_drew ?_ | refine blk_alloc ?_ _)); exact BK126.out)) : gb134 ≠ gb126))
             have n8_ := Aside0.mk ((by rw [hg]; exact Nat.ne_of_lt (blk_lt (g := gb127) (o := .cells #[.bool false, .bool false, .bool false, .int .i64 0, .string (⟨#[]⟩ : ByteArray), .bool false, .int .i64 0, .string (⟨#[]⟩ : ByteArray)] 41 (0, 0)) (by (with_reducible repeat (first | refine blk_drewN ?_ _ | refine blk_drew ?_ | refine blk_alloc ?_ _)); exact BK127.out)) : gb127 ≠ gb134))
             have n9_ := Aside0.mk ((by rw [hg]; exact Nat.ne_of_gt (blk_lt (g := gb127) (o := .cells #[.bool false, .bool false, .bool false, .int .i64 0, .string (⟨#[]⟩ : ByteArray), .bool false, .int .i64 0, .string (⟨#[]⟩ : ByteArray)] 41 (0, 0)) (by (with_reducible repeat (first | refine blk_drewN ?_ _ | refine blk_drew ?_ | refine blk_alloc ?_ _)); exact BK127.out)) : gb134 ≠ gb127))
             clear BK126
             clear BK127
             clear HB
             have BK126 := n0_
             have BK127 := n1_
             have HB := n2_
             have BK134 := n3_
             have GW134 := n4_
             have GE134 := n5_
             have NB126_134 := n6_
             have NB134_126 := n7_
             have NB127_134 := n8_
             have NB134_127 := n9_
             clear n0_ n1_ n2_ n3_ n4_ n5_ n6_ n7_ n8_ n9_
             clear hb hbox hg
             refine hK.out _ _ ⟨(blk_cell BK126.out 0).trans rfl, (blk_cell BK126.out 1).trans rfl, (blk_cell BK126.out 2).trans rfl, (blk_cell BK126.out 3).trans rfl, (blk_cell BK126.out 4).trans rfl, (blk_cell BK126.out 5).trans rfl, (blk_cell BK126.out 6).trans rfl, (blk_cell BK126.out 7).trans rfl⟩ (fun hHeld => ?_)
             clear hK K
             refine norm_ (a' := ?_) ?_ ?_
             rotate_left
             ·show Act.put _ (some 3) _ = _
              simp only [Act.put, List.setIfInBounds_toArray, List.set_cons_zero, List.set_cons_succ, i64_w, i32_w]
              rfl
             exact norm_ (by first | (simp only [putAll, Act.put, List.setIfInBounds_toArray, List.set_cons_zero, List.set_cons_succ]; done) | (simp only [putAll, Act.put, List.setIfInBounds_toArray, List.set_cons_zero, List.set_cons_succ]; rfl)) (hJ6 (gb134) _ ⟨hHeld, (by (with_reducible repeat (first | refine blk_drewN ?_ _ | refine blk_drew ?_ | refine blk_alloc ?_ _)); exact BK126.out), (by (with_reducible repeat (first | refine blk_drewN ?_ _ | refine blk_drew ?_ | refine blk_alloc ?_ _)); exact BK127.out), (by (with_reducible repeat (first | refine blk_drewN ?_ _ | refine blk_drew ?_ | refine blk_alloc ?_ _)); exact BK134.out), GW134.out, GE134.out, NB126_134.out, NB134_126.out, NB127_134.out, NB134_127.out, (by with_reducible repeat first | exact HB.out | apply below_alloc | apply pw_below_drewN | apply below_drew1 | refine below_set ?_ GE126.out | refine below_set ?_ GE127.out | refine below_set ?_ GE134.out)⟩)
            ·skip
             refine box_step ?hg (N := 4) ?hd (cs := #[.bool false, .int .i64 0, .string (⟨#[]⟩ : ByteArray)]) (t := 27) ?hr ?_; (case hd => rfl); (case hg => rfl); (case hr => first | (go_simp; done) | (go_simp; rfl))
             intro gb135 hg w9 hbox hb
             have n0_ := Aside0.mk (blk_below (g := gb126) (o := .cells #[.bool a0_0, .bool a0_1, .bool a0_2, .int .i64 a0_3, .string a0_4, .bool a0_5, .int .i64 a0_6, .string a0_7] 41 (0, 0)) (by (with_reducible repeat (first | refine blk_drewN ?_ _ | refine blk_drew ?_ | refine blk_alloc ?_ _)); exact BK126.out) hb)
             have n1_ := Aside0.mk (blk_below (g := gb127) (o := .cells #[.bool false, .bool false, .bool false, .int .i64 0, .string (⟨#[]⟩ : ByteArray), .bool false, .int .i64 0, .string (⟨#[]⟩ : ByteArray)] 41 (0, 0)) (by (with_reducible repeat (first | refine blk_drewN ?_ _ | refine blk_drew ?_ | refine blk_alloc ?_ _)); exact BK127.out) hb)
             have n2_ := Aside0.mk (below_step (by with_reducible repeat first | exact HB.out | apply below_alloc | apply pw_below_drewN | apply below_drew1 | refine below_set ?_ GE126.out | refine below_set ?_ GE127.out) hb)
             have n3_ := Aside0.mk (hbox)
             have n4_ := Aside0.mk ((by rw [hg]; exact (below_size (by with_reducible repeat first | exact HB.out | apply below_alloc | apply pw_below_drewN | apply below_drew1 | refine below_set ?_ GE126.out | refine below_set ?_ GE127.out)) : w.heap.size ≤ gb135))
             have n5_ := Aside0.mk ((by rw [hg]; exact (below_size (by with_reducible repeat first | exact HB.out | apply below_alloc | apply pw_below_drewN | apply below_drew1 | refine below_set ?_ GE126.out | refine below_set ?_ GE127.out)) : w.heap.size ≤ gb135))
             have n6_ := Aside0.mk ((by rw [hg]; exact Nat.ne_of_lt (blk_lt (g := gb126) (o := .cells #[.bool a0_0, .bool a0_1, .bool a0_2, .int .i64 a0_3, .string a0_4, .bool a0_5, .int .i64 a0_6, .string a0_7] 41 (0, 0)) (by (with_reducible repeat (first | refine blk_drewN ?_ _ | refine blk_drew ?_ | refine blk_alloc ?_ _)); exact BK126.out)) : gb126 ≠ gb135))
             have n7_ := Aside0.mk ((by rw [hg]; exact Nat.ne_of_gt (blk_lt (g := gb126) (o := .cells #[.bool a0_0, .bool a0_1, .bool a0_2, .int .i64 a0_3, .string a0_4, .bool a0_5, .int .i64 a0_6, .string a0_7] 41 (0, 0)) (by (with_reducible repeat (first | refine blk_drewN ?_ _ | refine blk_drew ?_ | refine blk_alloc ?_ _)); exact BK126.out)) : gb135 ≠ gb126))
             have n8_ := Aside0.mk ((by rw [hg]; exact Nat.ne_of_lt (blk_lt (g := gb127) (o := .cells #[.bool false, .bool false, .bool false, .int .i64 0, .string (⟨#[]⟩ : ByteArray), .bool false, .int .i64 0, .string (⟨#[]⟩ : ByteArray)] 41 (0, 0)) (by (with_reducible repeat (first | refine blk_drewN ?_ _ | refine blk_drew ?_ | refine blk_alloc ?_ _)); exact BK127.out)) : gb127 ≠ gb135))
             have n9_ := Aside0.mk ((by rw [hg]; exact Nat.ne_of_gt (blk_lt (g := gb127) (o := .cells #[.bool false, .bool false, .bool false, .int .i64 0, .string (⟨#[]⟩ : ByteArray), .bool false, .int .i64 0, .string (⟨#[]⟩ : ByteArray)] 41 (0, 0)) (by (with_reducible repeat (first | refine blk_drewN ?_ _ | refine blk_drew ?_ | refine blk_alloc ?_ _)); exact BK127.out)) : gb135 ≠ gb127))
             clear BK126
             clear BK127
             clear HB
             have BK126 := n0_
             have BK127 := n1_
             have HB := n2_
             have BK135 := n3_
             have GW135 := n4_
             have GE135 := n5_
             have NB126_135 := n6_
             have NB135_126 := n7_
             have NB127_135 := n8_
             have NB135_127 := n9_
             clear n0_ n1_ n2_ n3_ n4_ n5_ n6_ n7_ n8_ n9_
             clear hb hbox hg
             refine hK.out _ _ ⟨(blk_cell BK126.out 0).trans rfl, (blk_cell BK126.out 1).trans rfl, (blk_cell BK126.out 2).trans rfl, (blk_cell BK126.out 3).trans rfl, (blk_cell BK126.out 4).trans rfl, (blk_cell BK126.out 5).trans rfl, (blk_cell BK126.out 6).trans rfl, (blk_cell BK126.out 7).trans rfl⟩ (fun hHeld => ?_)
             clear hK K
             refine norm_ (a' := ?_) ?_ ?_
             rotate_left
             ·show Act.put _ (some 4) _ = _
              simp only [Act.put, List.setIfInBounds_toArray, List.set_cons_zero, List.set_cons_succ, i64_w, i32_w]
              rfl
             exact norm_ (by first | (simp only [putAll, Act.put, List.setIfInBounds_toArray, List.set_cons_zero, List.set_cons_succ]; done) | (simp only [putAll, Act.put, List.setIfInBounds_toArray, List.set_cons_zero, List.set_cons_succ]; rfl)) (hJ7 (gb135) _ ⟨hHeld, (by (with_reducible repeat (first | refine blk_drewN ?_ _ | refine blk_drew ?_ | refine blk_alloc ?_ _)); exact BK126.out), (by (with_reducible repeat (first | refine blk_drewN ?_ _ | refine blk_drew ?_ | refine blk_alloc ?_ _)); exact BK127.out), (by (with_reducible repeat (first | refine blk_drewN ?_ _ | refine blk_drew ?_ | refine blk_alloc ?_ _)); exact BK135.out), GW135.out, GE135.out, NB126_135.out, NB135_126.out, NB127_135.out, NB135_127.out, (by with_reducible repeat first | exact HB.out | apply below_alloc | apply pw_below_drewN | apply below_drew1 | refine below_set ?_ GE126.out | refine below_set ?_ GE127.out | refine below_set ?_ GE135.out)⟩)
           ·skip
            rintro gb135 w10 ⟨hS_, h0_, h1_, h2_, h3_, h4_, h5_, h6_, h7_, h8_, h9_⟩
            have n0_ : Aside0 (w10.heap[gb126]? = some (.cells #[.bool a0_0, .bool a0_1, .bool a0_2, .int .i64 a0_3, .string a0_4, .bool a0_5, .int .i64 a0_6, .string a0_7] 41 (0, 0))) := ⟨h0_⟩
            have n1_ : Aside0 (w10.heap[gb127]? = some (.cells #[.bool false, .bool false, .bool false, .int .i64 0, .string (⟨#[]⟩ : ByteArray), .bool false, .int .i64 0, .string (⟨#[]⟩ : ByteArray)] 41 (0, 0))) := ⟨h1_⟩
            have n2_ : Aside0 (w10.heap[gb135]? = some (.cells #[.bool false, .int .i64 0, .string (⟨#[]⟩ : ByteArray)] 27 (0, 0))) := ⟨h2_⟩
            have n3_ : Aside0 (w.heap.size ≤ gb135) := ⟨h3_⟩
            have n4_ : Aside0 (w.heap.size ≤ gb135) := ⟨h4_⟩
            have n5_ : Aside0 (gb126 ≠ gb135) := ⟨h5_⟩
            have n6_ : Aside0 (gb135 ≠ gb126) := ⟨h6_⟩
            have n7_ : Aside0 (gb127 ≠ gb135) := ⟨h7_⟩
            have n8_ : Aside0 (gb135 ≠ gb127) := ⟨h8_⟩
            have n9_ : Aside0 (Below w.heap.size w w10) := ⟨h9_⟩
            clear BK126
            clear BK127
            clear HB
            clear h0_ h1_ h2_ h3_ h4_ h5_ h6_ h7_ h8_ h9_
            have BK126 := n0_
            have BK127 := n1_
            have BK135 := n2_
            have GW135 := n3_
            have GE135 := n4_
            have NB126_135 := n5_
            have NB135_126 := n6_
            have NB127_135 := n7_
            have NB135_127 := n8_
            have HB := n9_
            clear n0_ n1_ n2_ n3_ n4_ n5_ n6_ n7_ n8_ n9_
            have hHeld : w10.cell? ⟨gb126, 0, none⟩ = some (.bool a0_0) ∧ w10.cell? ⟨gb126, 1, none⟩ = some (.bool a0_1) ∧ w10.cell? ⟨gb126, 2, none⟩ = some (.bool a0_2) ∧ w10.cell? ⟨gb126, 3, none⟩ = some (.int .i64 a0_3) ∧ w10.cell? ⟨gb126, 4, none⟩ = some (.string a0_4) ∧ w10.cell? ⟨gb126, 5, none⟩ = some (.bool a0_5) ∧ w10.cell? ⟨gb126, 6, none⟩ = some (.int .i64 a0_6) ∧ w10.cell? ⟨gb126, 7, none⟩ = some (.string a0_7) := hS_
            refine norm_ (a' := ?_) ?_ ?_
            rotate_left
            ·simp only [putAll, Act.put, List.setIfInBounds_toArray, List.set_cons_zero, List.set_cons_succ]
             rfl
            refine two_ (i := 2) (j := 6) (Ni := some 7) (Nj := some 3) #[true, true, true, true, true, false, false, true, false, false] #[true, true, false, true, true, false, true, true, false, false] rfl rfl rfl rfl (two_of HT_.out (by kernel_rfl)) (by decide) (by decide) (fun K hK => ?_) (fun K hK => ?_)
            ·skip
             refine goes_ Try.func48 (by kernel_rfl) rfl #[.agg #[.bool a0_2, .int .i64 a0_3, .string a0_4]] (by rfl) rfl rfl (by (try simp only [List.map_toArray, List.map_cons, List.map_nil]); first | done | rfl | (simp only [List.length_drop, List.length_take]; rfl)) ?_
             with_reducible refine (zone_solid.calls a0_2 a0_3 a0_4 t128 t129 t130 _ A2.out).mono ?_
             rintro e w11 ⟨rfl, hb⟩
             refine ⟨_, rfl, ?_⟩
             have n0_ := Aside0.mk (blk_below (g := gb126) (o := .cells #[.bool a0_0, .bool a0_1, .bool a0_2, .int .i64 a0_3, .string a0_4, .bool a0_5, .int .i64 a0_6, .string a0_7] 41 (0, 0)) (by (with_reducible repeat (first | refine blk_drewN ?_ _ | refine blk_drew ?_ | refine blk_alloc ?_ _)); exact BK126.out) hb)
             have n1_ := Aside0.mk (blk_below (g := gb127) (o := .cells #[.bool false, .bool false, .bool false, .int .i64 0, .string (⟨#[]⟩ : ByteArray), .bool false, .int .i64 0, .string (⟨#[]⟩ : ByteArray)] 41 (0, 0)) (by (with_reducible repeat (first | refine blk_drewN ?_ _ | refine blk_drew ?_ | refine blk_alloc ?_ _)); exact BK127.out) hb)
             have n2_ := Aside0.mk (blk_below (g := gb135) (o := .cells #[.bool false, .int .i64 0, .string (⟨#[]⟩ : ByteArray)] 27 (0, 0)) (by (with_reducible repeat (first | refine blk_drewN ?_ _ | refine blk_drew ?_ | refine blk_alloc ?_ _)); exact BK135.out) hb)
             have n3_ := Aside0.mk (below_step (by with_reducible repeat first | exact HB.out | apply below_alloc | apply pw_below_drewN | apply below_drew1 | refine below_set ?_ GE126.out | refine below_set ?_ GE127.out | refine below_set ?_ GE135.out) hb)
             clear BK126
             clear BK127
             clear BK135
             clear HB
             have BK126 := n0_
             have BK127 := n1_
             have BK135 := n2_
             have HB := n3_
             clear n0_ n1_ n2_ n3_
             (try clear hb)
             (try clear hb2)
             (try clear hk)
             (try clear hi)
             refine hK.out _ _ ⟨(blk_cell BK126.out 0).trans rfl, (blk_cell BK126.out 1).trans rfl, (blk_cell BK126.out 2).trans rfl, (blk_cell BK126.out 3).trans rfl, (blk_cell BK126.out 4).trans rfl, (blk_cell BK126.out 5).trans rfl, (blk_cell BK126.out 6).trans rfl, (blk_cell BK126.out 7).trans rfl⟩ (fun hHeld => ?_)
             clear hK K
             refine norm_ (a' := ?_) ?_ ?_
             rotate_left
             ·show Act.put _ (some 7) _ = _
              simp only [Act.put, List.setIfInBounds_toArray, List.set_cons_zero, List.set_cons_succ, i64_w, i32_w]
              rfl
             exact norm_ (by first | (simp only [putAll, Act.put, List.setIfInBounds_toArray, List.set_cons_zero, List.set_cons_succ]; done) | (simp only [putAll, Act.put, List.setIfInBounds_toArray, List.set_cons_zero, List.set_cons_succ]; rfl)) (hJ2_7 (gb135) _ ⟨hHeld, (by (with_reducible repeat (first | refine blk_drewN ?_ _ | refine blk_drew ?_ | refine blk_alloc ?_ _)); exact BK126.out), (by (with_reducible repeat (first | refine blk_drewN ?_ _ | refine blk_drew ?_ | refine blk_alloc ?_ _)); exact BK127.out), (by (with_reducible repeat (first | refine blk_drewN ?_ _ | refine blk_drew ?_ | refine blk_alloc ?_ _)); exact BK135.out), GW135.out, GE135.out, NB126_135.out, NB135_126.out, NB127_135.out, NB135_127.out, (by with_reducible repeat first | exact HB.out | apply below_alloc | apply pw_below_drewN | apply below_drew1 | refine below_set ?_ GE126.out | refine below_set ?_ GE127.out | refine below_set ?_ GE135.out)⟩)
            ·skip
             refine box_step ?hg (N := 3) ?hd (cs := #[.bool false, .int .i64 0, .string (⟨#[]⟩ : ByteArray)]) (t := 27) ?hr ?_; (case hd => rfl); (case hg => rfl); (case hr => first | (go_simp; done) | (go_simp; rfl))
             intro gb134 hg w11 hbox hb
             have n0_ := Aside0.mk (blk_below (g := gb126) (o := .cells #[.bool a0_0, .bool a0_1, .bool a0_2, .int .i64 a0_3, .string a0_4, .bool a0_5, .int .i64 a0_6, .string a0_7] 41 (0, 0)) (by (with_reducible repeat (first | refine blk_drewN ?_ _ | refine blk_drew ?_ | refine blk_alloc ?_ _)); exact BK126.out) hb)
             have n1_ := Aside0.mk (blk_below (g := gb127) (o := .cells #[.bool false, .bool false, .bool false, .int .i64 0, .string (⟨#[]⟩ : ByteArray), .bool false, .int .i64 0, .string (⟨#[]⟩ : ByteArray)] 41 (0, 0)) (by (with_reducible repeat (first | refine blk_drewN ?_ _ | refine blk_drew ?_ | refine blk_alloc ?_ _)); exact BK127.out) hb)
             have n2_ := Aside0.mk (blk_below (g := gb135) (o := .cells #[.bool false, .int .i64 0, .string (⟨#[]⟩ : ByteArray)] 27 (0, 0)) (by (with_reducible repeat (first | refine blk_drewN ?_ _ | refine blk_drew ?_ | refine blk_alloc ?_ _)); exact BK135.out) hb)
             have n3_ := Aside0.mk (below_step (by with_reducible repeat first | exact HB.out | apply below_alloc | apply pw_below_drewN | apply below_drew1 | refine below_set ?_ GE126.out | refine below_set ?_ GE127.out | refine below_set ?_ GE135.out) hb)
             have n4_ := Aside0.mk (hbox)
             have n5_ := Aside0.mk ((by rw [hg]; exact (below_size (by with_reducible repeat first | exact HB.out | apply below_alloc | apply pw_below_drewN | apply below_drew1 | refine below_set ?_ GE126.out | refine below_set ?_ GE127.out | refine below_set ?_ GE135.out)) : w.heap.size ≤ gb134))
             have n6_ := Aside0.mk ((by rw [hg]; exact (below_size (by with_reducible repeat first | exact HB.out | apply below_alloc | apply pw_below_drewN | apply below_drew1 | refine below_set ?_ GE126.out | refine below_set ?_ GE127.out | refine below_set ?_ GE135.out)) : w.heap.size ≤ gb134))
             have n7_ := Aside0.mk ((by rw [hg]; exact Nat.ne_of_lt (blk_lt (g := gb126) (o := .cells #[.bool a0_0, .bool a0_1, .bool a0_2, .int .i64 a0_3, .string a0_4, .bool a0_5, .int .i64 a0_6, .string a0_7] 41 (0, 0)) (by (with_reducible repeat (first | refine blk_drewN ?_ _ | refine blk_drew ?_ | refine blk_alloc ?_ _)); exact BK126.out)) : gb126 ≠ gb134))
             have n8_ := Aside0.mk ((by rw [hg]; exact Nat.ne_of_gt (blk_lt (g := gb126) (o := .cells #[.bool a0_0, .bool a0_1, .bool a0_2, .int .i64 a0_3, .string a0_4, .bool a0_5, .int .i64 a0_6, .string a0_7] 41 (0, 0)) (by (with_reducible repeat (first | refine blk_drewN ?_ _ | refine blk_drew ?_ | refine blk_alloc ?_ _)); exact BK126.out)) : gb134 ≠ gb126))
             have n9_ := Aside0.mk ((by rw [hg]; exact Nat.ne_of_lt (blk_lt (g := gb127) (o := .cells #[.bool false, .bool false, .bool false, .int .i64 0, .string (⟨#[]⟩ : ByteArray), .bool false, .int .i64 0, .string (⟨#[]⟩ : ByteArray)] 41 (0, 0)) (by (with_reducible repeat (first | refine blk_drewN ?_ _ | refine blk_drew ?_ | refine blk_alloc ?_ _)); exact BK127.out)) : gb127 ≠ gb134))
             have n10_ := Aside0.mk ((by rw [hg]; exact Nat.ne_of_gt (blk_lt (g := gb127) (o := .cells #[.bool false, .bool false, .bool false, .int .i64 0, .string (⟨#[]⟩ : ByteArray), .bool false, .int .i64 0, .string (⟨#[]⟩ : ByteArray)] 41 (0, 0)) (by (with_reducible repeat (first | refine blk_drewN ?_ _ | refine blk_drew ?_ | refine blk_alloc ?_ _)); exact BK127.out)) : gb134 ≠ gb127))
             have n11_ := Aside0.mk ((by rw [hg]; exact Nat.ne_of_lt (blk_lt (g := gb135) (o := .cells #[.bool false, .int .i64 0, .string (⟨#[]⟩ : ByteArray)] 27 (0, 0)) (by (with_reducible repeat (first | refine blk_drewN ?_ _ | refine blk_drew ?_ | refine blk_alloc ?_ _)); exact BK135.out)) : gb135 ≠ gb134))
             have n12_ := Aside0.mk ((by rw [hg]; exact Nat.ne_of_gt (blk_lt (g := gb135) (o := .cells #[.bool false, .int .i64 0, .string (⟨#[]⟩ : ByteArray)] 27 (0, 0)) (by (with_reducible repeat (first | refine blk_drewN ?_ _ | refine blk_drew ?_ | refine blk_alloc ?_ _)); exact BK135.out)) : gb134 ≠ gb135))
             clear BK126
             clear BK127
             clear BK135
             clear HB
             have BK126 := n0_
             have BK127 := n1_
             have BK135 := n2_
             have HB := n3_
             have BK134 := n4_
             have GW134 := n5_
             have GE134 := n6_
             have NB126_134 := n7_
             have NB134_126 := n8_
             have NB127_134 := n9_
             have NB134_127 := n10_
             have NB135_134 := n11_
             have NB134_135 := n12_
             clear n0_ n1_ n2_ n3_ n4_ n5_ n6_ n7_ n8_ n9_ n10_ n11_ n12_
             clear hb hbox hg
             refine hK.out _ _ ⟨(blk_cell BK126.out 0).trans rfl, (blk_cell BK126.out 1).trans rfl, (blk_cell BK126.out 2).trans rfl, (blk_cell BK126.out 3).trans rfl, (blk_cell BK126.out 4).trans rfl, (blk_cell BK126.out 5).trans rfl, (blk_cell BK126.out 6).trans rfl, (blk_cell BK126.out 7).trans rfl⟩ (fun hHeld => ?_)
             clear hK K
             refine norm_ (a' := ?_) ?_ ?_
             rotate_left
             ·show Act.put _ (some 3) _ = _
              simp only [Act.put, List.setIfInBounds_toArray, List.set_cons_zero, List.set_cons_succ, i64_w, i32_w]
              rfl
             exact norm_ (by first | (simp only [putAll, Act.put, List.setIfInBounds_toArray, List.set_cons_zero, List.set_cons_succ]; done) | (simp only [putAll, Act.put, List.setIfInBounds_toArray, List.set_cons_zero, List.set_cons_succ]; rfl)) (hJ6_7 (gb134, gb135) _ ⟨hHeld, (by (with_reducible repeat (first | refine blk_drewN ?_ _ | refine blk_drew ?_ | refine blk_alloc ?_ _)); exact BK126.out), (by (with_reducible repeat (first | refine blk_drewN ?_ _ | refine blk_drew ?_ | refine blk_alloc ?_ _)); exact BK127.out), (by (with_reducible repeat (first | refine blk_drewN ?_ _ | refine blk_drew ?_ | refine blk_alloc ?_ _)); exact BK134.out), (by (with_reducible repeat (first | refine blk_drewN ?_ _ | refine blk_drew ?_ | refine blk_alloc ?_ _)); exact BK135.out), GW134.out, GE134.out, NB126_134.out, NB134_126.out, NB127_134.out, NB134_127.out, NB135_134.out, NB134_135.out, GW135.out, GE135.out, NB126_135.out, NB135_126.out, NB127_135.out, NB135_127.out, (by with_reducible repeat first | exact HB.out | apply below_alloc | apply pw_below_drewN | apply below_drew1 | refine below_set ?_ GE126.out | refine below_set ?_ GE127.out | refine below_set ?_ GE135.out | refine below_set ?_ GE134.out)⟩)
          ·skip
           rintro gb134 w10 ⟨hS_, h0_, h1_, h2_, h3_, h4_, h5_, h6_, h7_, h8_, h9_⟩
           have n0_ : Aside0 (w10.heap[gb126]? = some (.cells #[.bool a0_0, .bool a0_1, .bool a0_2, .int .i64 a0_3, .string a0_4, .bool a0_5, .int .i64 a0_6, .string a0_7] 41 (0, 0))) := ⟨h0_⟩
           have n1_ : Aside0 (w10.heap[gb127]? = some (.cells #[.bool false, .bool false, .bool false, .int .i64 0, .string (⟨#[]⟩ : ByteArray), .bool false, .int .i64 0, .string (⟨#[]⟩ : ByteArray)] 41 (0, 0))) := ⟨h1_⟩
           have n2_ : Aside0 (w10.heap[gb134]? = some (.cells #[.bool false, .int .i64 0, .string (⟨#[]⟩ : ByteArray)] 27 (0, 0))) := ⟨h2_⟩
           have n3_ : Aside0 (w.heap.size ≤ gb134) := ⟨h3_⟩
           have n4_ : Aside0 (w.heap.size ≤ gb134) := ⟨h4_⟩
           have n5_ : Aside0 (gb126 ≠ gb134) := ⟨h5_⟩
           have n6_ : Aside0 (gb134 ≠ gb126) := ⟨h6_⟩
           have n7_ : Aside0 (gb127 ≠ gb134) := ⟨h7_⟩
           have n8_ : Aside0 (gb134 ≠ gb127) := ⟨h8_⟩
           have n9_ : Aside0 (Below w.heap.size w w10) := ⟨h9_⟩
           clear BK126
           clear BK127
           clear HB
           clear h0_ h1_ h2_ h3_ h4_ h5_ h6_ h7_ h8_ h9_
           have BK126 := n0_
           have BK127 := n1_
           have BK134 := n2_
           have GW134 := n3_
           have GE134 := n4_
           have NB126_134 := n5_
           have NB134_126 := n6_
           have NB127_134 := n7_
           have NB134_127 := n8_
           have HB := n9_
           clear n0_ n1_ n2_ n3_ n4_ n5_ n6_ n7_ n8_ n9_
           have hHeld : w10.cell? ⟨gb126, 0, none⟩ = some (.bool a0_0) ∧ w10.cell? ⟨gb126, 1, none⟩ = some (.bool a0_1) ∧ w10.cell? ⟨gb126, 2, none⟩ = some (.bool a0_2) ∧ w10.cell? ⟨gb126, 3, none⟩ = some (.int .i64 a0_3) ∧ w10.cell? ⟨gb126, 4, none⟩ = some (.string a0_4) ∧ w10.cell? ⟨gb126, 5, none⟩ = some (.bool a0_5) ∧ w10.cell? ⟨gb126, 6, none⟩ = some (.int .i64 a0_6) ∧ w10.cell? ⟨gb126, 7, none⟩ = some (.string a0_7) := hS_
           refine norm_ (a' := ?_) ?_ ?_
           rotate_left
           ·simp only [putAll, Act.put, List.setIfInBounds_toArray, List.set_cons_zero, List.set_cons_succ]
            rfl
           refine two_ (i := 2) (j := 7) (Ni := some 7) (Nj := some 4) #[true, true, true, true, true, false, true, false, false, false] #[true, true, false, true, true, false, true, true, false, false] rfl rfl rfl rfl (two_of HT_.out (by kernel_rfl)) (by decide) (by decide) (fun K hK => ?_) (fun K hK => ?_)
           ·skip
            refine goes_ Try.func48 (by kernel_rfl) rfl #[.agg #[.bool a0_2, .int .i64 a0_3, .string a0_4]] (by rfl) rfl rfl (by (try simp only [List.map_toArray, List.map_cons, List.map_nil]); first | done | rfl | (simp only [List.length_drop, List.length_take]; rfl)) ?_
            with_reducible refine (zone_solid.calls a0_2 a0_3 a0_4 t128 t129 t130 _ A2.out).mono ?_
            rintro e w11 ⟨rfl, hb⟩
            refine ⟨_, rfl, ?_⟩
            have n0_ := Aside0.mk (blk_below (g := gb126) (o := .cells #[.bool a0_0, .bool a0_1, .bool a0_2, .int .i64 a0_3, .string a0_4, .bool a0_5, .int .i64 a0_6, .string a0_7] 41 (0, 0)) (by (with_reducible repeat (first | refine blk_drewN ?_ _ | refine blk_drew ?_ | refine blk_alloc ?_ _)); exact BK126.out) hb)
            have n1_ := Aside0.mk (blk_below (g := gb127) (o := .cells #[.bool false, .bool false, .bool false, .int .i64 0, .string (⟨#[]⟩ : ByteArray), .bool false, .int .i64 0, .string (⟨#[]⟩ : ByteArray)] 41 (0, 0)) (by (with_reducible repeat (first | refine blk_drewN ?_ _ | refine blk_drew ?_ | refine blk_alloc ?_ _)); exact BK127.out) hb)
            have n2_ := Aside0.mk (blk_below (g := gb134) (o := .cells #[.bool false, .int .i64 0, .string (⟨#[]⟩ : ByteArray)] 27 (0, 0)) (by (with_reducible repeat (first | refine blk_drewN ?_ _ | refine blk_drew ?_ | refine blk_alloc ?_ _)); exact BK134.out) hb)
            have n3_ := Aside0.mk (below_step (by with_reducible repeat first | exact HB.out | apply below_alloc | apply pw_below_drewN | apply below_drew1 | refine below_set ?_ GE126.out | refine below_set ?_ GE127.out | refine below_set ?_ GE134.out) hb)
            clear BK126
            clear BK127
            clear BK134
            clear HB
            have BK126 := n0_
            have BK127 := n1_
            have BK134 := n2_
            have HB := n3_
            clear n0_ n1_ n2_ n3_
            (try clear hb)
            (try clear hb2)
            (try clear hk)
            (try clear hi)
            refine hK.out _ _ ⟨(blk_cell BK126.out 0).trans rfl, (blk_cell BK126.out 1).trans rfl, (blk_cell BK126.out 2).trans rfl, (blk_cell BK126.out 3).trans rfl, (blk_cell BK126.out 4).trans rfl, (blk_cell BK126.out 5).trans rfl, (blk_cell BK126.out 6).trans rfl, (blk_cell BK126.out 7).trans rfl⟩ (fun hHeld => ?_)
            clear hK K
            refine norm_ (a' := ?_) ?_ ?_
            rotate_left
            ·show Act.put _ (some 7) _ = _
             simp only [Act.put, List.setIfInBounds_toArray, List.set_cons_zero, List.set_cons_succ, i64_w, i32_w]
             rfl
            exact norm_ (by first | (simp only [putAll, Act.put, List.setIfInBounds_toArray, List.set_cons_zero, List.set_cons_succ]; done) | (simp only [putAll, Act.put, List.setIfInBounds_toArray, List.set_cons_zero, List.set_cons_succ]; rfl)) (hJ2_6 (gb134) _ ⟨hHeld, (by (with_reducible repeat (first | refine blk_drewN ?_ _ | refine blk_drew ?_ | refine blk_alloc ?_ _)); exact BK126.out), (by (with_reducible repeat (first | refine blk_drewN ?_ _ | refine blk_drew ?_ | refine blk_alloc ?_ _)); exact BK127.out), (by (with_reducible repeat (first | refine blk_drewN ?_ _ | refine blk_drew ?_ | refine blk_alloc ?_ _)); exact BK134.out), GW134.out, GE134.out, NB126_134.out, NB134_126.out, NB127_134.out, NB134_127.out, (by with_reducible repeat first | exact HB.out | apply below_alloc | apply pw_below_drewN | apply below_drew1 | refine below_set ?_ GE126.out | refine below_set ?_ GE127.out | refine below_set ?_ GE134.out)⟩)
           ·skip
            refine box_step ?hg (N := 4) ?hd (cs := #[.bool false, .int .i64 0, .string (⟨#[]⟩ : ByteArray)]) (t := 27) ?hr ?_; (case hd => rfl); (case hg => rfl); (case hr => first | (go_simp; done) | (go_simp; rfl))
            intro gb135 hg w11 hbox hb
            have n0_ := Aside0.mk (blk_below (g := gb126) (o := .cells #[.bool a0_0, .bool a0_1, .bool a0_2, .int .i64 a0_3, .string a0_4, .bool a0_5, .int .i64 a0_6, .string a0_7] 41 (0, 0)) (by (with_reducible repeat (first | refine blk_drewN ?_ _ | refine blk_drew ?_ | refine blk_alloc ?_ _)); exact BK126.out) hb)
            have n1_ := Aside0.mk (blk_below (g := gb127) (o := .cells #[.bool false, .bool false, .bool false, .int .i64 0, .string (⟨#[]⟩ : ByteArray), .bool false, .int .i64 0, .string (⟨#[]⟩ : ByteArray)] 41 (0, 0)) (by (with_reducible repeat (first | refine blk_drewN ?_ _ | refine blk_drew ?_ | refine blk_alloc ?_ _)); exact BK127.out) hb)
            have n2_ := Aside0.mk (blk_below (g := gb134) (o := .cells #[.bool false, .int .i64 0, .string (⟨#[]⟩ : ByteArray)] 27 (0, 0)) (by (with_reducible repeat (first | refine blk_drewN ?_ _ | refine blk_drew ?_ | refine blk_alloc ?_ _)); exact BK134.out) hb)
            have n3_ := Aside0.mk (below_step (by with_reducible repeat first | exact HB.out | apply below_alloc | apply pw_below_drewN | apply below_drew1 | refine below_set ?_ GE126.out | refine below_set ?_ GE127.out | refine below_set ?_ GE134.out) hb)
            have n4_ := Aside0.mk (hbox)
            have n5_ := Aside0.mk ((by rw [hg]; exact (below_size (by with_reducible repeat first | exact HB.out | apply below_alloc | apply pw_below_drewN | apply below_drew1 | refine below_set ?_ GE126.out | refine below_set ?_ GE127.out | refine below_set ?_ GE134.out)) : w.heap.size ≤ gb135))
            have n6_ := Aside0.mk ((by rw [hg]; exact (below_size (by with_reducible repeat first | exact HB.out | apply below_alloc | apply pw_below_drewN | apply below_drew1 | refine below_set ?_ GE126.out | refine below_set ?_ GE127.out | refine below_set ?_ GE134.out)) : w.heap.size ≤ gb135))
            have n7_ := Aside0.mk ((by rw [hg]; exact Nat.ne_of_lt (blk_lt (g := gb126) (o := .cells #[.bool a0_0, .bool a0_1, .bool a0_2, .int .i64 a0_3, .string a0_4, .bool a0_5, .int .i64 a0_6, .string a0_7] 41 (0, 0)) (by (with_reducible repeat (first | refine blk_drewN ?_ _ | refine blk_drew ?_ | refine blk_alloc ?_ _)); exact BK126.out)) : gb126 ≠ gb135))
            have n8_ := Aside0.mk ((by rw [hg]; exact Nat.ne_of_gt (blk_lt (g := gb126) (o := .cells #[.bool a0_0, .bool a0_1, .bool a0_2, .int .i64 a0_3, .string a0_4, .bool a0_5, .int .i64 a0_6, .string a0_7] 41 (0, 0)) (by (with_reducible repeat (first | refine blk_drewN ?_ _ | refine blk_drew ?_ | refine blk_alloc ?_ _)); exact BK126.out)) : gb135 ≠ gb126))
            have n9_ := Aside0.mk ((by rw [hg]; exact Nat.ne_of_lt (blk_lt (g := gb127) (o := .cells #[.bool false, .bool false, .bool false, .int .i64 0, .string (⟨#[]⟩ : ByteArray), .bool false, .int .i64 0, .string (⟨#[]⟩ : ByteArray)] 41 (0, 0)) (by (with_reducible repeat (first | refine blk_drewN ?_ _ | refine blk_drew ?_ | refine blk_alloc ?_ _)); exact BK127.out)) : gb127 ≠ gb135))
            have n10_ := Aside0.mk ((by rw [hg]; exact Nat.ne_of_gt (blk_lt (g := gb127) (o := .cells #[.bool false, .bool false, .bool false, .int .i64 0, .string (⟨#[]⟩ : ByteArray), .bool false, .int .i64 0, .string (⟨#[]⟩ : ByteArray)] 41 (0, 0)) (by (with_reducible repeat (first | refine blk_drewN ?_ _ | refine blk_drew ?_ | refine blk_alloc ?_ _)); exact BK127.out)) : gb135 ≠ gb127))
            have n11_ := Aside0.mk ((by rw [hg]; exact Nat.ne_of_lt (blk_lt (g := gb134) (o := .cells #[.bool false, .int .i64 0, .string (⟨#[]⟩ : ByteArray)] 27 (0, 0)) (by (with_reducible repeat (first | refine blk_drewN ?_ _ | refine blk_drew ?_ | refine blk_alloc ?_ _)); exact BK134.out)) : gb134 ≠ gb135))
            have n12_ := Aside0.mk ((by rw [hg]; exact Nat.ne_of_gt (blk_lt (g := gb134) (o := .cells #[.bool false, .int .i64 0, .string (⟨#[]⟩ : ByteArray)] 27 (0, 0)) (by (with_reducible repeat (first | refine blk_drewN ?_ _ | refine blk_drew ?_ | refine blk_alloc ?_ _)); exact BK134.out)) : gb135 ≠ gb134))
            clear BK126
            clear BK127
            clear BK134
            clear HB
            have BK126 := n0_
            have BK127 := n1_
            have BK134 := n2_
            have HB := n3_
            have BK135 := n4_
            have GW135 := n5_
            have GE135 := n6_
            have NB126_135 := n7_
            have NB135_126 := n8_
            have NB127_135 := n9_
            have NB135_127 := n10_
            have NB134_135 := n11_
            have NB135_134 := n12_
            clear n0_ n1_ n2_ n3_ n4_ n5_ n6_ n7_ n8_ n9_ n10_ n11_ n12_
            clear hb hbox hg
            refine hK.out _ _ ⟨(blk_cell BK126.out 0).trans rfl, (blk_cell BK126.out 1).trans rfl, (blk_cell BK126.out 2).trans rfl, (blk_cell BK126.out 3).trans rfl, (blk_cell BK126.out 4).trans rfl, (blk_cell BK126.out 5).trans rfl, (blk_cell BK126.out 6).trans rfl, (blk_cell BK126.out 7).trans rfl⟩ (fun hHeld => ?_)
            clear hK K
            refine norm_ (a' := ?_) ?_ ?_
            rotate_left
            ·show Act.put _ (some 4) _ = _
             simp only [Act.put, List.setIfInBounds_toArray, List.set_cons_zero, List.set_cons_succ, i64_w, i32_w]
             rfl
            exact norm_ (by first | (simp only [putAll, Act.put, List.setIfInBounds_toArray, List.set_cons_zero, List.set_cons_succ]; done) | (simp only [putAll, Act.put, List.setIfInBounds_toArray, List.set_cons_zero, List.set_cons_succ]; rfl)) (hJ6_7 (gb134, gb135) _ ⟨hHeld, (by (with_reducible repeat (first | refine blk_drewN ?_ _ | refine blk_drew ?_ | refine blk_alloc ?_ _)); exact BK126.out), (by (with_reducible repeat (first | refine blk_drewN ?_ _ | refine blk_drew ?_ | refine blk_alloc ?_ _)); exact BK127.out), (by (with_reducible repeat (first | refine blk_drewN ?_ _ | refine blk_drew ?_ | refine blk_alloc ?_ _)); exact BK134.out), (by (with_reducible repeat (first | refine blk_drewN ?_ _ | refine blk_drew ?_ | refine blk_alloc ?_ _)); exact BK135.out), GW134.out, GE134.out, NB126_134.out, NB134_126.out, NB127_134.out, NB134_127.out, NB135_134.out, NB134_135.out, GW135.out, GE135.out, NB126_135.out, NB135_126.out, NB127_135.out, NB135_127.out, (by with_reducible repeat first | exact HB.out | apply below_alloc | apply pw_below_drewN | apply below_drew1 | refine below_set ?_ GE126.out | refine below_set ?_ GE127.out | refine below_set ?_ GE134.out | refine below_set ?_ GE135.out)⟩)
         ·skip
          rintro _ w10 ⟨hS_, h0_, h1_, h2_⟩
          have n0_ : Aside0 (w10.heap[gb126]? = some (.cells #[.bool a0_0, .bool a0_1, .bool a0_2, .int .i64 a0_3, .string a0_4, .bool a0_5, .int .i64 a0_6, .string a0_7] 41 (0, 0))) := ⟨h0_⟩
          have n1_ : Aside0 (w10.heap[gb127]? = some (.cells #[.bool false, .bool false, .bool false, .int .i64 0, .string (⟨#[]⟩ : ByteArray), .bool false, .int .i64 0, .string (⟨#[]⟩ : ByteArray)] 41 (0, 0))) := ⟨h1_⟩
          have n2_ : Aside0 (Below w.heap.size w w10) := ⟨h2_⟩
          clear BK126
          clear BK127
          clear HB
          clear h0_ h1_ h2_
          have BK126 := n0_
          have BK127 := n1_
          have HB := n2_
          clear n0_ n1_ n2_
          have hHeld : w10.cell? ⟨gb126, 0, none⟩ = some (.bool a0_0) ∧ w10.cell? ⟨gb126, 1, none⟩ = some (.bool a0_1) ∧ w10.cell? ⟨gb126, 2, none⟩ = some (.bool a0_2) ∧ w10.cell? ⟨gb126, 3, none⟩ = some (.int .i64 a0_3) ∧ w10.cell? ⟨gb126, 4, none⟩ = some (.string a0_4) ∧ w10.cell? ⟨gb126, 5, none⟩ = some (.bool a0_5) ∧ w10.cell? ⟨gb126, 6, none⟩ = some (.int .i64 a0_6) ∧ w10.cell? ⟨gb126, 7, none⟩ = some (.string a0_7) := hS_
          refine norm_ (a' := ?_) ?_ ?_
          rotate_left
          ·simp only [putAll, Act.put, List.setIfInBounds_toArray, List.set_cons_zero, List.set_cons_succ]
           rfl
          refine three_ (i := 5) (j := 6) (k := 7) (Ni := some 10) (Nj := some 3) (Nk := some 4) #[true, true, true, true, true, true, false, false, false, false] #[true, true, true, true, true, false, true, false, false, false] #[true, true, true, true, true, false, false, true, false, false] rfl rfl rfl rfl rfl rfl (three_of HT_.out (by kernel_rfl)) (by decide) (by decide) (by decide) (fun K hK => ?_) (fun K hK => ?_) (fun K hK => ?_)
          ·skip
           refine goes_ Try.func48 (by kernel_rfl) rfl #[.agg #[.bool a0_5, .int .i64 a0_6, .string a0_7]] (by rfl) rfl rfl (by (try simp only [List.map_toArray, List.map_cons, List.map_nil]); first | done | rfl | (simp only [List.length_drop, List.length_take]; rfl)) ?_
           with_reducible refine (zone_solid.calls a0_5 a0_6 a0_7 t131 t132 t133 _ A3.out).mono ?_
           rintro e w11 ⟨rfl, hb⟩
           refine ⟨_, rfl, ?_⟩
           have n0_ := Aside0.mk (blk_below (g := gb126) (o := .cells #[.bool a0_0, .bool a0_1, .bool a0_2, .int .i64 a0_3, .string a0_4, .bool a0_5, .int .i64 a0_6, .string a0_7] 41 (0, 0)) (by (with_reducible repeat (first | refine blk_drewN ?_ _ | refine blk_drew ?_ | refine blk_alloc ?_ _)); exact BK126.out) hb)
           have n1_ := Aside0.mk (blk_below (g := gb127) (o := .cells #[.bool false, .bool false, .bool false, .int .i64 0, .string (⟨#[]⟩ : ByteArray), .bool false, .int .i64 0, .string (⟨#[]⟩ : ByteArray)] 41 (0, 0)) (by (with_reducible repeat (first | refine blk_drewN ?_ _ | refine blk_drew ?_ | refine blk_alloc ?_ _)); exact BK127.out) hb)
           have n2_ := Aside0.mk (below_step (by with_reducible repeat first | exact HB.out | apply below_alloc | apply pw_below_drewN | apply below_drew1 | refine below_set ?_ GE126.out | refine below_set ?_ GE127.out) hb)
           clear BK126
           clear BK127
           clear HB
           have BK126 := n0_
           have BK127 := n1_
           have HB := n2_
           clear n0_ n1_ n2_
           (try clear hb)
           (try clear hb2)
           (try clear hk)
           (try clear hi)
           refine hK.out _ _ ⟨(blk_cell BK126.out 0).trans rfl, (blk_cell BK126.out 1).trans rfl, (blk_cell BK126.out 2).trans rfl, (blk_cell BK126.out 3).trans rfl, (blk_cell BK126.out 4).trans rfl, (blk_cell BK126.out 5).trans rfl, (blk_cell BK126.out 6).trans rfl, (blk_cell BK126.out 7).trans rfl⟩ (fun hHeld => ?_)
           clear hK K
           refine norm_ (a' := ?_) ?_ ?_
           rotate_left
           ·show Act.put _ (some 10) _ = _
            simp only [Act.put, List.setIfInBounds_toArray, List.set_cons_zero, List.set_cons_succ, i64_w, i32_w]
            rfl
           exact norm_ (by first | (simp only [putAll, Act.put, List.setIfInBounds_toArray, List.set_cons_zero, List.set_cons_succ]; done) | (simp only [putAll, Act.put, List.setIfInBounds_toArray, List.set_cons_zero, List.set_cons_succ]; rfl)) (hJ2_5 () _ ⟨hHeld, (by (with_reducible repeat (first | refine blk_drewN ?_ _ | refine blk_drew ?_ | refine blk_alloc ?_ _)); exact BK126.out), (by (with_reducible repeat (first | refine blk_drewN ?_ _ | refine blk_drew ?_ | refine blk_alloc ?_ _)); exact BK127.out), (by with_reducible repeat first | exact HB.out | apply below_alloc | apply pw_below_drewN | apply below_drew1 | refine below_set ?_ GE126.out | refine below_set ?_ GE127.out)⟩)
          ·skip
           refine box_step ?hg (N := 3) ?hd (cs := #[.bool false, .int .i64 0, .string (⟨#[]⟩ : ByteArray)]) (t := 27) ?hr ?_; (case hd => rfl); (case hg => rfl); (case hr => first | (go_simp; done) | (go_simp; rfl))
           intro gb134 hg w11 hbox hb
           have n0_ := Aside0.mk (blk_below (g := gb126) (o := .cells #[.bool a0_0, .bool a0_1, .bool a0_2, .int .i64 a0_3, .string a0_4, .bool a0_5, .int .i64 a0_6, .string a0_7] 41 (0, 0)) (by (with_reducible repeat (first | refine blk_drewN ?_ _ | refine blk_drew ?_ | refine blk_alloc ?_ _)); exact BK126.out) hb)
           have n1_ := Aside0.mk (blk_below (g := gb127) (o := .cells #[.bool false, .bool false, .bool false, .int .i64 0, .string (⟨#[]⟩ : ByteArray), .bool false, .int .i64 0, .string (⟨#[]⟩ : ByteArray)] 41 (0, 0)) (by (with_reducible repeat (first | refine blk_drewN ?_ _ | refine blk_drew ?_ | refine blk_alloc ?_ _)); exact BK127.out) hb)
           have n2_ := Aside0.mk (below_step (by with_reducible repeat first | exact HB.out | apply below_alloc | apply pw_below_drewN | apply below_drew1 | refine below_set ?_ GE126.out | refine below_set ?_ GE127.out) hb)
           have n3_ := Aside0.mk (hbox)
           have n4_ := Aside0.mk ((by rw [hg]; exact (below_size (by with_reducible repeat first | exact HB.out | apply below_alloc | apply pw_below_drewN | apply below_drew1 | refine below_set ?_ GE126.out | refine below_set ?_ GE127.out)) : w.heap.size ≤ gb134))
           have n5_ := Aside0.mk ((by rw [hg]; exact (below_size (by with_reducible repeat first | exact HB.out | apply below_alloc | apply pw_below_drewN | apply below_drew1 | refine below_set ?_ GE126.out | refine below_set ?_ GE127.out)) : w.heap.size ≤ gb134))
           have n6_ := Aside0.mk ((by rw [hg]; exact Nat.ne_of_lt (blk_lt (g := gb126) (o := .cells #[.bool a0_0, .bool a0_1, .bool a0_2, .int .i64 a0_3, .string a0_4, .bool a0_5, .int .i64 a0_6, .string a0_7] 41 (0, 0)) (by (with_reducible repeat (first | refine blk_drewN ?_ _ | refine blk_drew ?_ | refine blk_alloc ?_ _)); exact BK126.out)) : gb126 ≠ gb134))
           have n7_ := Aside0.mk ((by rw [hg]; exact Nat.ne_of_gt (blk_lt (g := gb126) (o := .cells #[.bool a0_0, .bool a0_1, .bool a0_2, .int .i64 a0_3, .string a0_4, .bool a0_5, .int .i64 a0_6, .string a0_7] 41 (0, 0)) (by (with_reducible repeat (first | refine blk_drewN ?_ _ | refine blk_drew ?_ | refine blk_alloc ?_ _)); exact BK126.out)) : gb134 ≠ gb126))
           have n8_ := Aside0.mk ((by rw [hg]; exact Nat.ne_of_lt (blk_lt (g := gb127) (o := .cells #[.bool false, .bool false, .bool false, .int .i64 0, .string (⟨#[]⟩ : ByteArray), .bool false, .int .i64 0, .string (⟨#[]⟩ : ByteArray)] 41 (0, 0)) (by (with_reducible repeat (first | refine blk_drewN ?_ _ | refine blk_drew ?_ | refine blk_alloc ?_ _)); exact BK127.out)) : gb127 ≠ gb134))
           have n9_ := Aside0.mk ((by rw [hg]; exact Nat.ne_of_gt (blk_lt (g := gb127) (o := .cells #[.bool false, .bool false, .bool false, .int .i64 0, .string (⟨#[]⟩ : ByteArray), .bool false, .int .i64 0, .string (⟨#[]⟩ : ByteArray)] 41 (0, 0)) (by (with_reducible repeat (first | refine blk_drewN ?_ _ | refine blk_drew ?_ | refine blk_alloc ?_ _)); exact BK127.out)) : gb134 ≠ gb127))
           clear BK126
           clear BK127
           clear HB
           have BK126 := n0_
           have BK127 := n1_
           have HB := n2_
           have BK134 := n3_
           have GW134 := n4_
           have GE134 := n5_
           have NB126_134 := n6_
           have NB134_126 := n7_
           have NB127_134 := n8_
           have NB134_127 := n9_
           clear n0_ n1_ n2_ n3_ n4_ n5_ n6_ n7_ n8_ n9_
           clear hb hbox hg
           refine hK.out _ _ ⟨(blk_cell BK126.out 0).trans rfl, (blk_cell BK126.out 1).trans rfl, (blk_cell BK126.out 2).trans rfl, (blk_cell BK126.out 3).trans rfl, (blk_cell BK126.out 4).trans rfl, (blk_cell BK126.out 5).trans rfl, (blk_cell BK126.out 6).trans rfl, (blk_cell BK126.out 7).trans rfl⟩ (fun hHeld => ?_)
           clear hK K
           refine norm_ (a' := ?_) ?_ ?_
           rotate_left
           ·show Act.put _ (some 3) _ = _
            simp only [Act.put, List.setIfInBounds_toArray, List.set_cons_zero, List.set_cons_succ, i64_w, i32_w]
            rfl
           exact norm_ (by first | (simp only [putAll, Act.put, List.setIfInBounds_toArray, List.set_cons_zero, List.set_cons_succ]; done) | (simp only [putAll, Act.put, List.setIfInBounds_toArray, List.set_cons_zero, List.set_cons_succ]; rfl)) (hJ2_6 (gb134) _ ⟨hHeld, (by (with_reducible repeat (first | refine blk_drewN ?_ _ | refine blk_drew ?_ | refine blk_alloc ?_ _)); exact BK126.out), (by (with_reducible repeat (first | refine blk_drewN ?_ _ | refine blk_drew ?_ | refine blk_alloc ?_ _)); exact BK127.out), (by (with_reducible repeat (first | refine blk_drewN ?_ _ | refine blk_drew ?_ | refine blk_alloc ?_ _)); exact BK134.out), GW134.out, GE134.out, NB126_134.out, NB134_126.out, NB127_134.out, NB134_127.out, (by with_reducible repeat first | exact HB.out | apply below_alloc | apply pw_below_drewN | apply below_drew1 | refine below_set ?_ GE126.out | refine below_set ?_ GE127.out | refine below_set ?_ GE134.out)⟩)
          ·skip
           refine box_step ?hg (N := 4) ?hd (cs := #[.bool false, .int .i64 0, .string (⟨#[]⟩ : ByteArray)]) (t := 27) ?hr ?_; (case hd => rfl); (case hg => rfl); (case hr => first | (go_simp; done) | (go_simp; rfl))
           intro gb135 hg w11 hbox hb
           have n0_ := Aside0.mk (blk_below (g := gb126) (o := .cells #[.bool a0_0, .bool a0_1, .bool a0_2, .int .i64 a0_3, .string a0_4, .bool a0_5, .int .i64 a0_6, .string a0_7] 41 (0, 0)) (by (with_reducible repeat (first | refine blk_drewN ?_ _ | refine blk_drew ?_ | refine blk_alloc ?_ _)); exact BK126.out) hb)
           have n1_ := Aside0.mk (blk_below (g := gb127) (o := .cells #[.bool false, .bool false, .bool false, .int .i64 0, .string (⟨#[]⟩ : ByteArray), .bool false, .int .i64 0, .string (⟨#[]⟩ : ByteArray)] 41 (0, 0)) (by (with_reducible repeat (first | refine blk_drewN ?_ _ | refine blk_drew ?_ | refine blk_alloc ?_ _)); exact BK127.out) hb)
           have n2_ := Aside0.mk (below_step (by with_reducible repeat first | exact HB.out | apply below_alloc | apply pw_below_drewN | apply below_drew1 | refine below_set ?_ GE126.out | refine below_set ?_ GE127.out) hb)
           have n3_ := Aside0.mk (hbox)
           have n4_ := Aside0.mk ((by rw [hg]; exact (below_size (by with_reducible repeat first | exact HB.out | apply below_alloc | apply pw_below_drewN | apply below_drew1 | refine below_set ?_ GE126.out | refine below_set ?_ GE127.out)) : w.heap.size ≤ gb135))
           have n5_ := Aside0.mk ((by rw [hg]; exact (below_size (by with_reducible repeat first | exact HB.out | apply below_alloc | apply pw_below_drewN | apply below_drew1 | refine below_set ?_ GE126.out | refine below_set ?_ GE127.out)) : w.heap.size ≤ gb135))
           have n6_ := Aside0.mk ((by rw [hg]; exact Nat.ne_of_lt (blk_lt (g := gb126) (o := .cells #[.bool a0_0, .bool a0_1, .bool a0_2, .int .i64 a0_3, .string a0_4, .bool a0_5, .int .i64 a0_6, .string a0_7] 41 (0, 0)) (by (with_reducible repeat (first | refine blk_drewN ?_ _ | refine blk_drew ?_ | refine blk_alloc ?_ _)); exact BK126.out)) : gb126 ≠ gb135))
           have n7_ := Aside0.mk ((by rw [hg]; exact Nat.ne_of_gt (blk_lt (g := gb126) (o := .cells #[.bool a0_0, .bool a0_1, .bool a0_2, .int .i64 a0_3, .string a0_4, .bool a0_5, .int .i64 a0_6, .string a0_7] 41 (0, 0)) (by (with_reducible repeat (first | refine blk_drewN ?_ _ | refine blk_drew ?_ | refine blk_alloc ?_ _)); exact BK126.out)) : gb135 ≠ gb126))
           have n8_ := Aside0.mk ((by rw [hg]; exact Nat.ne_of_lt (blk_lt (g := gb127) (o := .cells #[.bool false, .bool false, .bool false, .int .i64 0, .string (⟨#[]⟩ : ByteArray), .bool false, .int .i64 0, .string (⟨#[]⟩ : ByteArray)] 41 (0, 0)) (by (with_reducible repeat (first | refine blk_drewN ?_ _ | refine blk_drew ?_ | refine blk_alloc ?_ _)); exact BK127.out)) : gb127 ≠ gb135))
           have n9_ := Aside0.mk ((by rw [hg]; exact Nat.ne_of_gt (blk_lt (g := gb127) (o := .cells #[.bool false, .bool false, .bool false, .int .i64 0, .string (⟨#[]⟩ : ByteArray), .bool false, .int .i64 0, .string (⟨#[]⟩ : ByteArray)] 41 (0, 0)) (by (with_reducible repeat (first | refine blk_drewN ?_ _ | refine blk_drew ?_ | refine blk_alloc ?_ _)); exact BK127.out)) : gb135 ≠ gb127))
           clear BK126
           clear BK127
           clear HB
           have BK126 := n0_
           have BK127 := n1_
           have HB := n2_
           have BK135 := n3_
           have GW135 := n4_
           have GE135 := n5_
           have NB126_135 := n6_
           have NB135_126 := n7_
           have NB127_135 := n8_
           have NB135_127 := n9_
           clear n0_ n1_ n2_ n3_ n4_ n5_ n6_ n7_ n8_ n9_
           clear hb hbox hg
           refine hK.out _ _ ⟨(blk_cell BK126.out 0).trans rfl, (blk_cell BK126.out 1).trans rfl, (blk_cell BK126.out 2).trans rfl, (blk_cell BK126.out 3).trans rfl, (blk_cell BK126.out 4).trans rfl, (blk_cell BK126.out 5).trans rfl, (blk_cell BK126.out 6).trans rfl, (blk_cell BK126.out 7).trans rfl⟩ (fun hHeld => ?_)
           clear hK K
           refine norm_ (a' := ?_) ?_ ?_
           rotate_left
           ·show Act.put _ (some 4) _ = _
            simp only [Act.put, List.setIfInBounds_toArray, List.set_cons_zero, List.set_cons_succ, i64_w, i32_w]
            rfl
           exact norm_ (by first | (simp only [putAll, Act.put, List.setIfInBounds_toArray, List.set_cons_zero, List.set_cons_succ]; done) | (simp only [putAll, Act.put, List.setIfInBounds_toArray, List.set_cons_zero, List.set_cons_succ]; rfl)) (hJ2_7 (gb135) _ ⟨hHeld, (by (with_reducible repeat (first | refine blk_drewN ?_ _ | refine blk_drew ?_ | refine blk_alloc ?_ _)); exact BK126.out), (by (with_reducible repeat (first | refine blk_drewN ?_ _ | refine blk_drew ?_ | refine blk_alloc ?_ _)); exact BK127.out), (by (with_reducible repeat (first | refine blk_drewN ?_ _ | refine blk_drew ?_ | refine blk_alloc ?_ _)); exact BK135.out), GW135.out, GE135.out, NB126_135.out, NB135_126.out, NB127_135.out, NB135_127.out, (by with_reducible repeat first | exact HB.out | apply below_alloc | apply pw_below_drewN | apply below_drew1 | refine below_set ?_ GE126.out | refine below_set ?_ GE127.out | refine below_set ?_ GE135.out)⟩)
        ·skip
         rintro ⟨gb134, gb135⟩ w11 ⟨hS_, h0_, h1_, h2_, h3_, h4_, h5_, h6_, h7_, h8_, h9_, h10_, h11_, h12_, h13_, h14_, h15_, h16_, h17_, h18_⟩
         have n0_ : Aside0 (w11.heap[gb126]? = some (.cells #[.bool a0_0, .bool a0_1, .bool a0_2, .int .i64 a0_3, .string a0_4, .bool a0_5, .int .i64 a0_6, .string a0_7] 41 (0, 0))) := ⟨h0_⟩
         have n1_ : Aside0 (w11.heap[gb127]? = some (.cells #[.bool false, .bool false, .bool false, .int .i64 0, .string (⟨#[]⟩ : ByteArray), .bool false, .int .i64 0, .string (⟨#[]⟩ : ByteArray)] 41 (0, 0))) := ⟨h1_⟩
         have n2_ : Aside0 (w11.heap[gb134]? = some (.cells #[.bool false, .int .i64 0, .string (⟨#[]⟩ : ByteArray)] 27 (0, 0))) := ⟨h2_⟩
         have n3_ : Aside0 (w11.heap[gb135]? = some (.cells #[.bool false, .int .i64 0, .string (⟨#[]⟩ : ByteArray)] 27 (0, 0))) := ⟨h3_⟩
         have n4_ : Aside0 (w.heap.size ≤ gb134) := ⟨h4_⟩
         have n5_ : Aside0 (w.heap.size ≤ gb134) := ⟨h5_⟩
         have n6_ : Aside0 (gb126 ≠ gb134) := ⟨h6_⟩
         have n7_ : Aside0 (gb134 ≠ gb126) := ⟨h7_⟩
         have n8_ : Aside0 (gb127 ≠ gb134) := ⟨h8_⟩
         have n9_ : Aside0 (gb134 ≠ gb127) := ⟨h9_⟩
         have n10_ : Aside0 (gb135 ≠ gb134) := ⟨h10_⟩
         have n11_ : Aside0 (gb134 ≠ gb135) := ⟨h11_⟩
         have n12_ : Aside0 (w.heap.size ≤ gb135) := ⟨h12_⟩
         have n13_ : Aside0 (w.heap.size ≤ gb135) := ⟨h13_⟩
         have n14_ : Aside0 (gb126 ≠ gb135) := ⟨h14_⟩
         have n15_ : Aside0 (gb135 ≠ gb126) := ⟨h15_⟩
         have n16_ : Aside0 (gb127 ≠ gb135) := ⟨h16_⟩
         have n17_ : Aside0 (gb135 ≠ gb127) := ⟨h17_⟩
         have n18_ : Aside0 (Below w.heap.size w w11) := ⟨h18_⟩
         clear BK126
         clear BK127
         clear HB
         clear h0_ h1_ h2_ h3_ h4_ h5_ h6_ h7_ h8_ h9_ h10_ h11_ h12_ h13_ h14_ h15_ h16_ h17_ h18_
         have BK126 := n0_
         have BK127 := n1_
         have BK134 := n2_
         have BK135 := n3_
         have GW134 := n4_
         have GE134 := n5_
         have NB126_134 := n6_
         have NB134_126 := n7_
         have NB127_134 := n8_
         have NB134_127 := n9_
         have NB135_134 := n10_
         have NB134_135 := n11_
         have GW135 := n12_
         have GE135 := n13_
         have NB126_135 := n14_
         have NB135_126 := n15_
         have NB127_135 := n16_
         have NB135_127 := n17_
         have HB := n18_
         clear n0_ n1_ n2_ n3_ n4_ n5_ n6_ n7_ n8_ n9_ n10_ n11_ n12_ n13_ n14_ n15_ n16_ n17_ n18_
         have hHeld : w11.cell? ⟨gb126, 0, none⟩ = some (.bool a0_0) ∧ w11.cell? ⟨gb126, 1, none⟩ = some (.bool a0_1) ∧ w11.cell? ⟨gb126, 2, none⟩ = some (.bool a0_2) ∧ w11.cell? ⟨gb126, 3, none⟩ = some (.int .i64 a0_3) ∧ w11.cell? ⟨gb126, 4, none⟩ = some (.string a0_4) ∧ w11.cell? ⟨gb126, 5, none⟩ = some (.bool a0_5) ∧ w11.cell? ⟨gb126, 6, none⟩ = some (.int .i64 a0_6) ∧ w11.cell? ⟨gb126, 7, none⟩ = some (.string a0_7) := hS_
         refine norm_ (a' := ?_) ?_ ?_
         rotate_left
         ·simp only [putAll, Act.put, List.setIfInBounds_toArray, List.set_cons_zero, List.set_cons_succ]
          rfl
         refine one_ (i := 2) (N := some 7) #[true, true, true, true, true, false, true, true, false, false] rfl rfl (one_of HT_.out (by kernel_rfl)) (by decide) (fun K hK => ?_)
         refine goes_ Try.func48 (by kernel_rfl) rfl #[.agg #[.bool a0_2, .int .i64 a0_3, .string a0_4]] (by rfl) rfl rfl (by (try simp only [List.map_toArray, List.map_cons, List.map_nil]); first | done | rfl | (simp only [List.length_drop, List.length_take]; rfl)) ?_
         with_reducible refine (zone_solid.calls a0_2 a0_3 a0_4 t128 t129 t130 _ A2.out).mono ?_
         rintro e w12 ⟨rfl, hb⟩
         refine ⟨_, rfl, ?_⟩
         have n0_ := Aside0.mk (blk_below (g := gb126) (o := .cells #[.bool a0_0, .bool a0_1, .bool a0_2, .int .i64 a0_3, .string a0_4, .bool a0_5, .int .i64 a0_6, .string a0_7] 41 (0, 0)) (by (with_reducible repeat (first | refine blk_drewN ?_ _ | refine blk_drew ?_ | refine blk_alloc ?_ _)); exact BK126.out) hb)
         have n1_ := Aside0.mk (blk_below (g := gb127) (o := .cells #[.bool false, .bool false, .bool false, .int .i64 0, .string (⟨#[]⟩ : ByteArray), .bool false, .int .i64 0, .string (⟨#[]⟩ : ByteArray)] 41 (0, 0)) (by (with_reducible repeat (first | refine blk_drewN ?_ _ | refine blk_drew ?_ | refine blk_alloc ?_ _)); exact BK127.out) hb)
         have n2_ := Aside0.mk (blk_below (g := gb134) (o := .cells #[.bool false, .int .i64 0, .string (⟨#[]⟩ : ByteArray)] 27 (0, 0)) (by (with_reducible repeat (first | refine blk_drewN ?_ _ | refine blk_drew ?_ | refine blk_alloc ?_ _)); exact BK134.out) hb)
         have n3_ := Aside0.mk (blk_below (g := gb135) (o := .cells #[.bool false, .int .i64 0, .string (⟨#[]⟩ : ByteArray)] 27 (0, 0)) (by (with_reducible repeat (first | refine blk_drewN ?_ _ | refine blk_drew ?_ | refine blk_alloc ?_ _)); exact BK135.out) hb)
         have n4_ := Aside0.mk (below_step (by with_reducible repeat first | exact HB.out | apply below_alloc | apply pw_below_drewN | apply below_drew1 | refine below_set ?_ GE126.out | refine below_set ?_ GE127.out | refine below_set ?_ GE134.out | refine below_set ?_ GE135.out) hb)
         clear BK126
         clear BK127
         clear BK134
         clear BK135
         clear HB
         have BK126 := n0_
         have BK127 := n1_
         have BK134 := n2_
         have BK135 := n3_
         have HB := n4_
         clear n0_ n1_ n2_ n3_ n4_
         (try clear hb)
         (try clear hb2)
         (try clear hk)
         (try clear hi)
         refine hK.out _ _ ⟨(blk_cell BK126.out 0).trans rfl, (blk_cell BK126.out 1).trans rfl, (blk_cell BK126.out 2).trans rfl, (blk_cell BK126.out 3).trans rfl, (blk_cell BK126.out 4).trans rfl, (blk_cell BK126.out 5).trans rfl, (blk_cell BK126.out 6).trans rfl, (blk_cell BK126.out 7).trans rfl⟩ (fun hHeld => ?_)
         clear hK K
         refine norm_ (a' := ?_) ?_ ?_
         rotate_left
         ·show Act.put _ (some 7) _ = _
          simp only [Act.put, List.setIfInBounds_toArray, List.set_cons_zero, List.set_cons_succ, i64_w, i32_w]
          rfl
         exact norm_ (by first | (simp only [putAll, Act.put, List.setIfInBounds_toArray, List.set_cons_zero, List.set_cons_succ]; done) | (simp only [putAll, Act.put, List.setIfInBounds_toArray, List.set_cons_zero, List.set_cons_succ]; rfl)) (hJ2_6_7 (gb134, gb135) _ ⟨hHeld, (by (with_reducible repeat (first | refine blk_drewN ?_ _ | refine blk_drew ?_ | refine blk_alloc ?_ _)); exact BK126.out), (by (with_reducible repeat (first | refine blk_drewN ?_ _ | refine blk_drew ?_ | refine blk_alloc ?_ _)); exact BK127.out), (by (with_reducible repeat (first | refine blk_drewN ?_ _ | refine blk_drew ?_ | refine blk_alloc ?_ _)); exact BK134.out), (by (with_reducible repeat (first | refine blk_drewN ?_ _ | refine blk_drew ?_ | refine blk_alloc ?_ _)); exact BK135.out), GW134.out, GE134.out, NB126_134.out, NB134_126.out, NB127_134.out, NB134_127.out, NB135_134.out, NB134_135.out, GW135.out, GE135.out, NB126_135.out, NB135_126.out, NB127_135.out, NB135_127.out, (by with_reducible repeat first | exact HB.out | apply below_alloc | apply pw_below_drewN | apply below_drew1 | refine below_set ?_ GE126.out | refine below_set ?_ GE127.out | refine below_set ?_ GE134.out | refine below_set ?_ GE135.out)⟩)
       ·skip
        rintro gb135 w11 ⟨hS_, h0_, h1_, h2_, h3_, h4_, h5_, h6_, h7_, h8_, h9_⟩
        have n0_ : Aside0 (w11.heap[gb126]? = some (.cells #[.bool a0_0, .bool a0_1, .bool a0_2, .int .i64 a0_3, .string a0_4, .bool a0_5, .int .i64 a0_6, .string a0_7] 41 (0, 0))) := ⟨h0_⟩
        have n1_ : Aside0 (w11.heap[gb127]? = some (.cells #[.bool false, .bool false, .bool false, .int .i64 0, .string (⟨#[]⟩ : ByteArray), .bool false, .int .i64 0, .string (⟨#[]⟩ : ByteArray)] 41 (0, 0))) := ⟨h1_⟩
        have n2_ : Aside0 (w11.heap[gb135]? = some (.cells #[.bool false, .int .i64 0, .string (⟨#[]⟩ : ByteArray)] 27 (0, 0))) := ⟨h2_⟩
        have n3_ : Aside0 (w.heap.size ≤ gb135) := ⟨h3_⟩
        have n4_ : Aside0 (w.heap.size ≤ gb135) := ⟨h4_⟩
        have n5_ : Aside0 (gb126 ≠ gb135) := ⟨h5_⟩
        have n6_ : Aside0 (gb135 ≠ gb126) := ⟨h6_⟩
        have n7_ : Aside0 (gb127 ≠ gb135) := ⟨h7_⟩
        have n8_ : Aside0 (gb135 ≠ gb127) := ⟨h8_⟩
        have n9_ : Aside0 (Below w.heap.size w w11) := ⟨h9_⟩
        clear BK126
        clear BK127
        clear HB
        clear h0_ h1_ h2_ h3_ h4_ h5_ h6_ h7_ h8_ h9_
        have BK126 := n0_
        have BK127 := n1_
        have BK135 := n2_
        have GW135 := n3_
        have GE135 := n4_
        have NB126_135 := n5_
        have NB135_126 := n6_
        have NB127_135 := n7_
        have NB135_127 := n8_
        have HB := n9_
        clear n0_ n1_ n2_ n3_ n4_ n5_ n6_ n7_ n8_ n9_
        have hHeld : w11.cell? ⟨gb126, 0, none⟩ = some (.bool a0_0) ∧ w11.cell? ⟨gb126, 1, none⟩ = some (.bool a0_1) ∧ w11.cell? ⟨gb126, 2, none⟩ = some (.bool a0_2) ∧ w11.cell? ⟨gb126, 3, none⟩ = some (.int .i64 a0_3) ∧ w11.cell? ⟨gb126, 4, none⟩ = some (.string a0_4) ∧ w11.cell? ⟨gb126, 5, none⟩ = some (.bool a0_5) ∧ w11.cell? ⟨gb126, 6, none⟩ = some (.int .i64 a0_6) ∧ w11.cell? ⟨gb126, 7, none⟩ = some (.string a0_7) := hS_
        refine norm_ (a' := ?_) ?_ ?_
        rotate_left
        ·simp only [putAll, Act.put, List.setIfInBounds_toArray, List.set_cons_zero, List.set_cons_succ]
         rfl
        refine two_ (i := 5) (j := 6) (Ni := some 10) (Nj := some 3) #[true, true, true, true, true, true, false, true, false, false] #[true, true, true, true, true, false, true, true, false, false] rfl rfl rfl rfl (two_of HT_.out (by kernel_rfl)) (by decide) (by decide) (fun K hK => ?_) (fun K hK => ?_)
        ·skip
         refine goes_ Try.func48 (by kernel_rfl) rfl #[.agg #[.bool a0_5, .int .i64 a0_6, .string a0_7]] (by rfl) rfl rfl (by (try simp only [List.map_toArray, List.map_cons, List.map_nil]); first | done | rfl | (simp only [List.length_drop, List.length_take]; rfl)) ?_
         with_reducible refine (zone_solid.calls a0_5 a0_6 a0_7 t131 t132 t133 _ A3.out).mono ?_
         rintro e w12 ⟨rfl, hb⟩
         refine ⟨_, rfl, ?_⟩
         have n0_ := Aside0.mk (blk_below (g := gb126) (o := .cells #[.bool a0_0, .bool a0_1, .bool a0_2, .int .i64 a0_3, .string a0_4, .bool a0_5, .int .i64 a0_6, .string a0_7] 41 (0, 0)) (by (with_reducible repeat (first | refine blk_drewN ?_ _ | refine blk_drew ?_ | refine blk_alloc ?_ _)); exact BK126.out) hb)
         have n1_ := Aside0.mk (blk_below (g := gb127) (o := .cells #[.bool false, .bool false, .bool false, .int .i64 0, .string (⟨#[]⟩ : ByteArray), .bool false, .int .i64 0, .string (⟨#[]⟩ : ByteArray)] 41 (0, 0)) (by (with_reducible repeat (first | refine blk_drewN ?_ _ | refine blk_drew ?_ | refine blk_alloc ?_ _)); exact BK127.out) hb)
         have n2_ := Aside0.mk (blk_below (g := gb135) (o := .cells #[.bool false, .int .i64 0, .string (⟨#[]⟩ : ByteArray)] 27 (0, 0)) (by (with_reducible repeat (first | refine blk_drewN ?_ _ | refine blk_drew ?_ | refine blk_alloc ?_ _)); exact BK135.out) hb)
         have n3_ := Aside0.mk (below_step (by with_reducible repeat first | exact HB.out | apply below_alloc | apply pw_below_drewN | apply below_drew1 | refine below_set ?_ GE126.out | refine below_set ?_ GE127.out | refine below_set ?_ GE135.out) hb)
         clear BK126
         clear BK127
         clear BK135
         clear HB
         have BK126 := n0_
         have BK127 := n1_
         have BK135 := n2_
         have HB := n3_
         clear n0_ n1_ n2_ n3_
         (try clear hb)
         (try clear hb2)
         (try clear hk)
         (try clear hi)
         refine hK.out _ _ ⟨(blk_cell BK126.out 0).trans rfl, (blk_cell BK126.out 1).trans rfl, (blk_cell BK126.out 2).trans rfl, (blk_cell BK126.out 3).trans rfl, (blk_cell BK126.out 4).trans rfl, (blk_cell BK126.out 5).trans rfl, (blk_cell BK126.out 6).trans rfl, (blk_cell BK126.out 7).trans rfl⟩ (fun hHeld => ?_)
         clear hK K
         refine norm_ (a' := ?_) ?_ ?_
         rotate_left
         ·show Act.put _ (some 10) _ = _
          simp only [Act.put, List.setIfInBounds_toArray, List.set_cons_zero, List.set_cons_succ, i64_w, i32_w]
          rfl
         exact norm_ (by first | (simp only [putAll, Act.put, List.setIfInBounds_toArray, List.set_cons_zero, List.set_cons_succ]; done) | (simp only [putAll, Act.put, List.setIfInBounds_toArray, List.set_cons_zero, List.set_cons_succ]; rfl)) (hJ2_5_7 (gb135) _ ⟨hHeld, (by (with_reducible repeat (first | refine blk_drewN ?_ _ | refine blk_drew ?_ | refine blk_alloc ?_ _)); exact BK126.out), (by (with_reducible repeat (first | refine blk_drewN ?_ _ | refine blk_drew ?_ | refine blk_alloc ?_ _)); exact BK127.out), (by (with_reducible repeat (first | refine blk_drewN ?_ _ | refine blk_drew ?_ | refine blk_alloc ?_ _)); exact BK135.out), GW135.out, GE135.out, NB126_135.out, NB135_126.out, NB127_135.out, NB135_127.out, (by with_reducible repeat first | exact HB.out | apply below_alloc | apply pw_below_drewN | apply below_drew1 | refine below_set ?_ GE126.out | refine below_set ?_ GE127.out | refine below_set ?_ GE135.out)⟩)
        ·skip
         refine box_step ?hg (N := 3) ?hd (cs := #[.bool false, .int .i64 0, .string (⟨#[]⟩ : ByteArray)]) (t := 27) ?hr ?_; (case hd => rfl); (case hg => rfl); (case hr => first | (go_simp; done) | (go_simp; rfl))
         intro gb134 hg w12 hbox hb
         have n0_ := Aside0.mk (blk_below (g := gb126) (o := .cells #[.bool a0_0, .bool a0_1, .bool a0_2, .int .i64 a0_3, .string a0_4, .bool a0_5, .int .i64 a0_6, .string a0_7] 41 (0, 0)) (by (with_reducible repeat (first | refine blk_drewN ?_ _ | refine blk_drew ?_ | refine blk_alloc ?_ _)); exact BK126.out) hb)
         have n1_ := Aside0.mk (blk_below (g := gb127) (o := .cells #[.bool false, .bool false, .bool false, .int .i64 0, .string (⟨#[]⟩ : ByteArray), .bool false, .int .i64 0, .string (⟨#[]⟩ : ByteArray)] 41 (0, 0)) (by (with_reducible repeat (first | refine blk_drewN ?_ _ | refine blk_drew ?_ | refine blk_alloc ?_ _)); exact BK127.out) hb)
         have n2_ := Aside0.mk (blk_below (g := gb135) (o := .cells #[.bool false, .int .i64 0, .string (⟨#[]⟩ : ByteArray)] 27 (0, 0)) (by (with_reducible repeat (first | refine blk_drewN ?_ _ | refine blk_drew ?_ | refine blk_alloc ?_ _)); exact BK135.out) hb)
         have n3_ := Aside0.mk (below_step (by with_reducible repeat first | exact HB.out | apply below_alloc | apply pw_below_drewN | apply below_drew1 | refine below_set ?_ GE126.out | refine below_set ?_ GE127.out | refine below_set ?_ GE135.out) hb)
         have n4_ := Aside0.mk (hbox)
         have n5_ := Aside0.mk ((by rw [hg]; exact (below_size (by with_reducible repeat first | exact HB.out | apply below_alloc | apply pw_below_drewN | apply below_drew1 | refine below_set ?_ GE126.out | refine below_set ?_ GE127.out | refine below_set ?_ GE135.out)) : w.heap.size ≤ gb134))
         have n6_ := Aside0.mk ((by rw [hg]; exact (below_size (by with_reducible repeat first | exact HB.out | apply below_alloc | apply pw_below_drewN | apply below_drew1 | refine below_set ?_ GE126.out | refine below_set ?_ GE127.out | refine below_set ?_ GE135.out)) : w.heap.size ≤ gb134))
         have n7_ := Aside0.mk ((by rw [hg]; exact Nat.ne_of_lt (blk_lt (g := gb126) (o := .cells #[.bool a0_0, .bool a0_1, .bool a0_2, .int .i64 a0_3, .string a0_4, .bool a0_5, .int .i64 a0_6, .string a0_7] 41 (0, 0)) (by (with_reducible repeat (first | refine blk_drewN ?_ _ | refine blk_drew ?_ | refine blk_alloc ?_ _)); exact BK126.out)) : gb126 ≠ gb134))
         have n8_ := Aside0.mk ((by rw [hg]; exact Nat.ne_of_gt (blk_lt (g := gb126) (o := .cells #[.bool a0_0, .bool a0_1, .bool a0_2, .int .i64 a0_3, .string a0_4, .bool a0_5, .int .i64 a0_6, .string a0_7] 41 (0, 0)) (by (with_reducible repeat (first | refine blk_drewN ?_ _ | refine blk_drew ?_ | refine blk_alloc ?_ _)); exact BK126.out)) : gb134 ≠ gb126))
         have n9_ := Aside0.mk ((by rw [hg]; exact Nat.ne_of_lt (blk_lt (g := gb127) (o := .cells #[.bool false, .bool false, .bool false, .int .i64 0, .string (⟨#[]⟩ : ByteArray), .bool false, .int .i64 0, .string (⟨#[]⟩ : ByteArray)] 41 (0, 0)) (by (with_reducible repeat (first | refine blk_drewN ?_ _ | refine blk_drew ?_ | refine blk_alloc ?_ _)); exact BK127.out)) : gb127 ≠ gb134))
         have n10_ := Aside0.mk ((by rw [hg]; exact Nat.ne_of_gt (blk_lt (g := gb127) (o := .cells #[.bool false, .bool false, .bool false, .int .i64 0, .string (⟨#[]⟩ : ByteArray), .bool false, .int .i64 0, .string (⟨#[]⟩ : ByteArray)] 41 (0, 0)) (by (with_reducible repeat (first | refine blk_drewN ?_ _ | refine blk_drew ?_ | refine blk_alloc ?_ _)); exact BK127.out)) : gb134 ≠ gb127))
         have n11_ := Aside0.mk ((by rw [hg]; exact Nat.ne_of_lt (blk_lt (g := gb135) (o := .cells #[.bool false, .int .i64 0, .string (⟨#[]⟩ : ByteArray)] 27 (0, 0)) (by (with_reducible repeat (first | refine blk_drewN ?_ _ | refine blk_drew ?_ | refine blk_alloc ?_ _)); exact BK135.out)) : gb135 ≠ gb134))
         have n12_ := Aside0.mk ((by rw [hg]; exact Nat.ne_of_gt (blk_lt (g := gb135) (o := .cells #[.bool false, .int .i64 0, .string (⟨#[]⟩ : ByteArray)] 27 (0, 0)) (by (with_reducible repeat (first | refine blk_drewN ?_ _ | refine blk_drew ?_ | refine blk_alloc ?_ _)); exact BK135.out)) : gb134 ≠ gb135))
         clear BK126
         clear BK127
         clear BK135
         clear HB
         have BK126 := n0_
         have BK127 := n1_
         have BK135 := n2_
         have HB := n3_
         have BK134 := n4_
         have GW134 := n5_
         have GE134 := n6_
         have NB126_134 := n7_
         have NB134_126 := n8_
         have NB127_134 := n9_
         have NB134_127 := n10_
         have NB135_134 := n11_
         have NB134_135 := n12_
         clear n0_ n1_ n2_ n3_ n4_ n5_ n6_ n7_ n8_ n9_ n10_ n11_ n12_
         clear hb hbox hg
         refine hK.out _ _ ⟨(blk_cell BK126.out 0).trans rfl, (blk_cell BK126.out 1).trans rfl, (blk_cell BK126.out 2).trans rfl, (blk_cell BK126.out 3).trans rfl, (blk_cell BK126.out 4).trans rfl, (blk_cell BK126.out 5).trans rfl, (blk_cell BK126.out 6).trans rfl, (blk_cell BK126.out 7).trans rfl⟩ (fun hHeld => ?_)
         clear hK K
         refine norm_ (a' := ?_) ?_ ?_
         rotate_left
         ·show Act.put _ (some 3) _ = _
          simp only [Act.put, List.setIfInBounds_toArray, List.set_cons_zero, List.set_cons_succ, i64_w, i32_w]
          rfl
         exact norm_ (by first | (simp only [putAll, Act.put, List.setIfInBounds_toArray, List.set_cons_zero, List.set_cons_succ]; done) | (simp only [putAll, Act.put, List.setIfInBounds_toArray, List.set_cons_zero, List.set_cons_succ]; rfl)) (hJ2_6_7 (gb134, gb135) _ ⟨hHeld, (by (with_reducible repeat (first | refine blk_drewN ?_ _ | refine blk_drew ?_ | refine blk_alloc ?_ _)); exact BK126.out), (by (with_reducible repeat (first | refine blk_drewN ?_ _ | refine blk_drew ?_ | refine blk_alloc ?_ _)); exact BK127.out), (by (with_reducible repeat (first | refine blk_drewN ?_ _ | refine blk_drew ?_ | refine blk_alloc ?_ _)); exact BK134.out), (by (with_reducible repeat (first | refine blk_drewN ?_ _ | refine blk_drew ?_ | refine blk_alloc ?_ _)); exact BK135.out), GW134.out, GE134.out, NB126_134.out, NB134_126.out, NB127_134.out, NB134_127.out, NB135_134.out, NB134_135.out, GW135.out, GE135.out, NB126_135.out, NB135_126.out, NB127_135.out, NB135_127.out, (by with_reducible repeat first | exact HB.out | apply below_alloc | apply pw_below_drewN | apply below_drew1 | refine below_set ?_ GE126.out | refine below_set ?_ GE127.out | refine below_set ?_ GE135.out | refine below_set ?_ GE134.out)⟩)
      ·skip
       rintro gb134 w11 ⟨hS_, h0_, h1_, h2_, h3_, h4_, h5_, h6_, h7_, h8_, h9_⟩
       have n0_ : Aside0 (w11.heap[gb126]? = some (.cells #[.bool a0_0, .bool a0_1, .bool a0_2, .int .i64 a0_3, .string a0_4, .bool a0_5, .int .i64 a0_6, .string a0_7] 41 (0, 0))) := ⟨h0_⟩
       have n1_ : Aside0 (w11.heap[gb127]? = some (.cells #[.bool false, .bool false, .bool false, .int .i64 0, .string (⟨#[]⟩ : ByteArray), .bool false, .int .i64 0, .string (⟨#[]⟩ : ByteArray)] 41 (0, 0))) := ⟨h1_⟩
       have n2_ : Aside0 (w11.heap[gb134]? = some (.cells #[.bool false, .int .i64 0, .string (⟨#[]⟩ : ByteArray)] 27 (0, 0))) := ⟨h2_⟩
       have n3_ : Aside0 (w.heap.size ≤ gb134) := ⟨h3_⟩
       have n4_ : Aside0 (w.heap.size ≤ gb134) := ⟨h4_⟩
       have n5_ : Aside0 (gb126 ≠ gb134) := ⟨h5_⟩
       have n6_ : Aside0 (gb134 ≠ gb126) := ⟨h6_⟩
       have n7_ : Aside0 (gb127 ≠ gb134) := ⟨h7_⟩
       have n8_ : Aside0 (gb134 ≠ gb127) := ⟨h8_⟩
       have n9_ : Aside0 (Below w.heap.size w w11) := ⟨h9_⟩
       clear BK126
       clear BK127
       clear HB
       clear h0_ h1_ h2_ h3_ h4_ h5_ h6_ h7_ h8_ h9_
       have BK126 := n0_
       have BK127 := n1_
       have BK134 := n2_
       have GW134 := n3_
       have GE134 := n4_
       have NB126_134 := n5_
       have NB134_126 := n6_
       have NB127_134 := n7_
       have NB134_127 := n8_
       have HB := n9_
       clear n0_ n1_ n2_ n3_ n4_ n5_ n6_ n7_ n8_ n9_
       have hHeld : w11.cell? ⟨gb126, 0, none⟩ = some (.bool a0_0) ∧ w11.cell? ⟨gb126, 1, none⟩ = some (.bool a0_1) ∧ w11.cell? ⟨gb126, 2, none⟩ = some (.bool a0_2) ∧ w11.cell? ⟨gb126, 3, none⟩ = some (.int .i64 a0_3) ∧ w11.cell? ⟨gb126, 4, none⟩ = some (.string a0_4) ∧ w11.cell? ⟨gb126, 5, none⟩ = some (.bool a0_5) ∧ w11.cell? ⟨gb126, 6, none⟩ = some (.int .i64 a0_6) ∧ w11.cell? ⟨gb126, 7, none⟩ = some (.string a0_7) := hS_
       refine norm_ (a' := ?_) ?_ ?_
       rotate_left
       ·simp only [putAll, Act.put, List.setIfInBounds_toArray, List.set_cons_zero, List.set_cons_succ]
        rfl
       refine two_ (i := 5) (j := 7) (Ni := some 10) (Nj := some 4) #[true, true, true, true, true, true, true, false, false, false] #[true, true, true, true, true, false, true, true, false, false] rfl rfl rfl rfl (two_of HT_.out (by kernel_rfl)) (by decide) (by decide) (fun K hK => ?_) (fun K hK => ?_)
       ·skip
        refine goes_ Try.func48 (by kernel_rfl) rfl #[.agg #[.bool a0_5, .int .i64 a0_6, .string a0_7]] (by rfl) rfl rfl (by (try simp only [List.map_toArray, List.map_cons, List.map_nil]); first | done | rfl | (simp only [List.length_drop, List.length_take]; rfl)) ?_
        with_reducible refine (zone_solid.calls a0_5 a0_6 a0_7 t131 t132 t133 _ A3.out).mono ?_
        rintro e w12 ⟨rfl, hb⟩
        refine ⟨_, rfl, ?_⟩
        have n0_ := Aside0.mk (blk_below (g := gb126) (o := .cells #[.bool a0_0, .bool a0_1, .bool a0_2, .int .i64 a0_3, .string a0_4, .bool a0_5, .int .i64 a0_6, .string a0_7] 41 (0, 0)) (by (with_reducible repeat (first | refine blk_drewN ?_ _ | refine blk_drew ?_ | refine blk_alloc ?_ _)); exact BK126.out) hb)
        have n1_ := Aside0.mk (blk_below (g := gb127) (o := .cells #[.bool false, .bool false, .bool false, .int .i64 0, .string (⟨#[]⟩ : ByteArray), .bool false, .int .i64 0, .string (⟨#[]⟩ : ByteArray)] 41 (0, 0)) (by (with_reducible repeat (first | refine blk_drewN ?_ _ | refine blk_drew ?_ | refine blk_alloc ?_ _)); exact BK127.out) hb)
        have n2_ := Aside0.mk (blk_below (g := gb134) (o := .cells #[.bool false, .int .i64 0, .string (⟨#[]⟩ : ByteArray)] 27 (0, 0)) (by (with_reducible repeat (first | refine blk_drewN ?_ _ | refine blk_drew ?_ | refine blk_alloc ?_ _)); exact BK134.out) hb)
        have n3_ := Aside0.mk (below_step (by with_reducible repeat first | exact HB.out | apply below_alloc | apply pw_below_drewN | apply below_drew1 | refine below_set ?_ GE126.out | refine below_set ?_ GE127.out | refine below_set ?_ GE134.out) hb)
        clear BK126
        clear BK127
        clear BK134
        clear HB
        have BK126 := n0_
        have BK127 := n1_
        have BK134 := n2_
        have HB := n3_
        clear n0_ n1_ n2_ n3_
        (try clear hb)
        (try clear hb2)
        (try clear hk)
        (try clear hi)
        refine hK.out _ _ ⟨(blk_cell BK126.out 0).trans rfl, (blk_cell BK126.out 1).trans rfl, (blk_cell BK126.out 2).trans rfl, (blk_cell BK126.out 3).trans rfl, (blk_cell BK126.out 4).trans rfl, (blk_cell BK126.out 5).trans rfl, (blk_cell BK126.out 6).trans rfl, (blk_cell BK126.out 7).trans rfl⟩ (fun hHeld => ?_)
        clear hK K
        refine norm_ (a' := ?_) ?_ ?_
        rotate_left
        ·show Act.put _ (some 10) _ = _
         simp only [Act.put, List.setIfInBounds_toArray, List.set_cons_zero, List.set_cons_succ, i64_w, i32_w]
         rfl
        exact norm_ (by first | (simp only [putAll, Act.put, List.setIfInBounds_toArray, List.set_cons_zero, List.set_cons_succ]; done) | (simp only [putAll, Act.put, List.setIfInBounds_toArray, List.set_cons_zero, List.set_cons_succ]; rfl)) (hJ2_5_6 (gb134) _ ⟨hHeld, (by (with_reducible repeat (first | refine blk_drewN ?_ _ | refine blk_drew ?_ | refine blk_alloc ?_ _)); exact BK126.out), (by (with_reducible repeat (first | refine blk_drewN ?_ _ | refine blk_drew ?_ | refine blk_alloc ?_ _)); exact BK127.out), (by (with_reducible repeat (first | refine blk_drewN ?_ _ | refine blk_drew ?_ | refine blk_alloc ?_ _)); exact BK134.out), GW134.out, GE134.out, NB126_134.out, NB134_126.out, NB127_134.out, NB134_127.out, (by with_reducible repeat first | exact HB.out | apply below_alloc | apply pw_below_drewN | apply below_drew1 | refine below_set ?_ GE126.out | refine below_set ?_ GE127.out | refine below_set ?_ GE134.out)⟩)
       ·skip
        refine box_step ?hg (N := 4) ?hd (cs := #[.bool false, .int .i64 0, .string (⟨#[]⟩ : ByteArray)]) (t := 27) ?hr ?_; (case hd => rfl); (case hg => rfl); (case hr => first | (go_simp; done) | (go_simp; rfl))
        intro gb135 hg w12 hbox hb
        have n0_ := Aside0.mk (blk_below (g := gb126) (o := .cells #[.bool a0_0, .bool a0_1, .bool a0_2, .int .i64 a0_3, .string a0_4, .bool a0_5, .int .i64 a0_6, .string a0_7] 41 (0, 0)) (by (with_reducible repeat (first | refine blk_drewN ?_ _ | refine blk_drew ?_ | refine blk_alloc ?_ _)); exact BK126.out) hb)
        have n1_ := Aside0.mk (blk_below (g := gb127) (o := .cells #[.bool false, .bool false, .bool false, .int .i64 0, .string (⟨#[]⟩ : ByteArray), .bool false, .int .i64 0, .string (⟨#[]⟩ : ByteArray)] 41 (0, 0)) (by (with_reducible repeat (first | refine blk_drewN ?_ _ | refine blk_drew ?_ | refine blk_alloc ?_ _)); exact BK127.out) hb)
        have n2_ := Aside0.mk (blk_below (g := gb134) (o := .cells #[.bool false, .int .i64 0, .string (⟨#[]⟩ : ByteArray)] 27 (0, 0)) (by (with_reducible repeat (first | refine blk_drewN ?_ _ | refine blk_drew ?_ | refine blk_alloc ?_ _)); exact BK134.out) hb)
        have n3_ := Aside0.mk (below_step (by with_reducible repeat first | exact HB.out | apply below_alloc | apply pw_below_drewN | apply below_drew1 | refine below_set ?_ GE126.out | refine below_set ?_ GE127.out | refine below_set ?_ GE134.out) hb)
        have n4_ := Aside0.mk (hbox)
        have n5_ := Aside0.mk ((by rw [hg]; exact (below_size (by with_reducible repeat first | exact HB.out | apply below_alloc | apply pw_below_drewN | apply below_drew1 | refine below_set ?_ GE126.out | refine below_set ?_ GE127.out | refine below_set ?_ GE134.out)) : w.heap.size ≤ gb135))
        have n6_ := Aside0.mk ((by rw [hg]; exact (below_size (by with_reducible repeat first | exact HB.out | apply below_alloc | apply pw_below_drewN | apply below_drew1 | refine below_set ?_ GE126.out | refine below_set ?_ GE127.out | refine below_set ?_ GE134.out)) : w.heap.size ≤ gb135))
        have n7_ := Aside0.mk ((by rw [hg]; exact Nat.ne_of_lt (blk_lt (g := gb126) (o := .cells #[.bool a0_0, .bool a0_1, .bool a0_2, .int .i64 a0_3, .string a0_4, .bool a0_5, .int .i64 a0_6, .string a0_7] 41 (0, 0)) (by (with_reducible repeat (first | refine blk_drewN ?_ _ | refine blk_drew ?_ | refine blk_alloc ?_ _)); exact BK126.out)) : gb126 ≠ gb135))
        have n8_ := Aside0.mk ((by rw [hg]; exact Nat.ne_of_gt (blk_lt (g := gb126) (o := .cells #[.bool a0_0, .bool a0_1, .bool a0_2, .int .i64 a0_3, .string a0_4, .bool a0_5, .int .i64 a0_6, .string a0_7] 41 (0, 0)) (by (with_reducible repeat (first | refine blk_drewN ?_ _ | refine blk_drew ?_ | refine blk_alloc ?_ _)); exact BK126.out)) : gb135 ≠ gb126))
        have n9_ := Aside0.mk ((by rw [hg]; exact Nat.ne_of_lt (blk_lt (g := gb127) (o := .cells #[.bool false, .bool false, .bool false, .int .i64 0, .string (⟨#[]⟩ : ByteArray), .bool false, .int .i64 0, .string (⟨#[]⟩ : ByteArray)] 41 (0, 0)) (by (with_reducible repeat (first | refine blk_drewN ?_ _ | refine blk_drew ?_ | refine blk_alloc ?_ _)); exact BK127.out)) : gb127 ≠ gb135))
        have n10_ := Aside0.mk ((by rw [hg]; exact Nat.ne_of_gt (blk_lt (g := gb127) (o := .cells #[.bool false, .bool false, .bool false, .int .i64 0, .string (⟨#[]⟩ : ByteArray), .bool false, .int .i64 0, .string (⟨#[]⟩ : ByteArray)] 41 (0, 0)) (by (with_reducible repeat (first | refine blk_drewN ?_ _ | refine blk_drew ?_ | refine blk_alloc ?_ _)); exact BK127.out)) : gb135 ≠ gb127))
        have n11_ := Aside0.mk ((by rw [hg]; exact Nat.ne_of_lt (blk_lt (g := gb134) (o := .cells #[.bool false, .int .i64 0, .string (⟨#[]⟩ : ByteArray)] 27 (0, 0)) (by (with_reducible repeat (first | refine blk_drewN ?_ _ | refine blk_drew ?_ | refine blk_alloc ?_ _)); exact BK134.out)) : gb134 ≠ gb135))
        have n12_ := Aside0.mk ((by rw [hg]; exact Nat.ne_of_gt (blk_lt (g := gb134) (o := .cells #[.bool false, .int .i64 0, .string (⟨#[]⟩ : ByteArray)] 27 (0, 0)) (by (with_reducible repeat (first | refine blk_drewN ?_ _ | refine blk_drew ?_ | refine blk_alloc ?_ _)); exact BK134.out)) : gb135 ≠ gb134))
        clear BK126
        clear BK127
        clear BK134
        clear HB
        have BK126 := n0_
        have BK127 := n1_
        have BK134 := n2_
        have HB := n3_
        have BK135 := n4_
        have GW135 := n5_
        have GE135 := n6_
        have NB126_135 := n7_
        have NB135_126 := n8_
        have NB127_135 := n9_
        have NB135_127 := n10_
        have NB134_135 := n11_
        have NB135_134 := n12_
        clear n0_ n1_ n2_ n3_ n4_ n5_ n6_ n7_ n8_ n9_ n10_ n11_ n12_
        clear hb hbox hg
        refine hK.out _ _ ⟨(blk_cell BK126.out 0).trans rfl, (blk_cell BK126.out 1).trans rfl, (blk_cell BK126.out 2).trans rfl, (blk_cell BK126.out 3).trans rfl, (blk_cell BK126.out 4).trans rfl, (blk_cell BK126.out 5).trans rfl, (blk_cell BK126.out 6).trans rfl, (blk_cell BK126.out 7).trans rfl⟩ (fun hHeld => ?_)
        clear hK K
        refine norm_ (a' := ?_) ?_ ?_
        rotate_left
        ·show Act.put _ (some 4) _ = _
         simp only [Act.put, List.setIfInBounds_toArray, List.set_cons_zero, List.set_cons_succ, i64_w, i32_w]
         rfl
        exact norm_ (by first | (simp only [putAll, Act.put, List.setIfInBounds_toArray, List.set_cons_zero, List.set_cons_succ]; done) | (simp only [putAll, Act.put, List.setIfInBounds_toArray, List.set_cons_zero, List.set_cons_succ]; rfl)) (hJ2_6_7 (gb134, gb135) _ ⟨hHeld, (by (with_reducible repeat (first | refine blk_drewN ?_ _ | refine blk_drew ?_ | refine blk_alloc ?_ _)); exact BK126.out), (by (with_reducible repeat (first | refine blk_drewN ?_ _ | refine blk_drew ?_ | refine blk_alloc ?_ _)); exact BK127.out), (by (with_reducible repeat (first | refine blk_drewN ?_ _ | refine blk_drew ?_ | refine blk_alloc ?_ _)); exact BK134.out), (by (with_reducible repeat (first | refine blk_drewN ?_ _ | refine blk_drew ?_ | refine blk_alloc ?_ _)); exact BK135.out), GW134.out, GE134.out, NB126_134.out, NB134_126.out, NB127_134.out, NB134_127.out, NB135_134.out, NB134_135.out, GW135.out, GE135.out, NB126_135.out, NB135_126.out, NB127_135.out, NB135_127.out, (by with_reducible repeat first | exact HB.out | apply below_alloc | apply pw_below_drewN | apply below_drew1 | refine below_set ?_ GE126.out | refine below_set ?_ GE127.out | refine below_set ?_ GE134.out | refine below_set ?_ GE135.out)⟩)
     ·skip
      rintro _ w11 ⟨hS_, h0_, h1_, h2_⟩
      have n0_ : Aside0 (w11.heap[gb126]? = some (.cells #[.bool a0_0, .bool a0_1, .bool a0_2, .int .i64 a0_3, .string a0_4, .bool a0_5, .int .i64 a0_6, .string a0_7] 41 (0, 0))) := ⟨h0_⟩
      have n1_ : Aside0 (w11.heap[gb127]? = some (.cells #[.bool false, .bool false, .bool false, .int .i64 0, .string (⟨#[]⟩ : ByteArray), .bool false, .int .i64 0, .string (⟨#[]⟩ : ByteArray)] 41 (0, 0))) := ⟨h1_⟩
      have n2_ : Aside0 (Below w.heap.size w w11) := ⟨h2_⟩
      clear BK126
      clear BK127
      clear HB
      clear h0_ h1_ h2_
      have BK126 := n0_
      have BK127 := n1_
      have HB := n2_
      clear n0_ n1_ n2_
      have hHeld : w11.cell? ⟨gb126, 0, none⟩ = some (.bool a0_0) ∧ w11.cell? ⟨gb126, 1, none⟩ = some (.bool a0_1) ∧ w11.cell? ⟨gb126, 2, none⟩ = some (.bool a0_2) ∧ w11.cell? ⟨gb126, 3, none⟩ = some (.int .i64 a0_3) ∧ w11.cell? ⟨gb126, 4, none⟩ = some (.string a0_4) ∧ w11.cell? ⟨gb126, 5, none⟩ = some (.bool a0_5) ∧ w11.cell? ⟨gb126, 6, none⟩ = some (.int .i64 a0_6) ∧ w11.cell? ⟨gb126, 7, none⟩ = some (.string a0_7) := hS_
      refine norm_ (a' := ?_) ?_ ?_
      rotate_left
      ·simp only [putAll, Act.put, List.setIfInBounds_toArray, List.set_cons_zero, List.set_cons_succ]
       rfl
      refine two_ (i := 6) (j := 7) (Ni := some 3) (Nj := some 4) #[true, true, true, true, true, true, true, false, false, false] #[true, true, true, true, true, true, false, true, false, false] rfl rfl rfl rfl (two_of HT_.out (by kernel_rfl)) (by decide) (by decide) (fun K hK => ?_) (fun K hK => ?_)
      ·skip
       refine box_step ?hg (N := 3) ?hd (cs := #[.bool false, .int .i64 0, .string (⟨#[]⟩ : ByteArray)]) (t := 27) ?hr ?_; (case hd => rfl); (case hg => rfl); (case hr => first | (go_simp; done) | (go_simp; rfl))
       intro gb134 hg w12 hbox hb
       have n0_ := Aside0.mk (blk_below (g := gb126) (o := .cells #[.bool a0_0, .bool a0_1, .bool a0_2, .int .i64 a0_3, .string a0_4, .bool a0_5, .int .i64 a0_6, .string a0_7] 41 (0, 0)) (by (with_reducible repeat (first | refine blk_drewN ?_ _ | refine blk_drew ?_ | refine blk_alloc ?_ _)); exact BK126.out) hb)
       have n1_ := Aside0.mk (blk_below (g := gb127) (o := .cells #[.bool false, .bool false, .bool false, .int .i64 0, .string (⟨#[]⟩ : ByteArray), .bool false, .int .i64 0, .string (⟨#[]⟩ : ByteArray)] 41 (0, 0)) (by (with_reducible repeat (first | refine blk_drewN ?_ _ | refine blk_drew ?_ | refine blk_alloc ?_ _)); exact BK127.out) hb)
       have n2_ := Aside0.mk (below_step (by with_reducible repeat first | exact HB.out | apply below_alloc | apply pw_below_drewN | apply below_drew1 | refine below_set ?_ GE126.out | refine below_set ?_ GE127.out) hb)
       have n3_ := Aside0.mk (hbox)
       have n4_ := Aside0.mk ((by rw [hg]; exact (below_size (by with_reducible repeat first | exact HB.out | apply below_alloc | apply pw_below_drewN | apply below_drew1 | refine below_set ?_ GE126.out | refine below_set ?_ GE127.out)) : w.heap.size ≤ gb134))
       have n5_ := Aside0.mk ((by rw [hg]; exact (below_size (by with_reducible repeat first | exact HB.out | apply below_alloc | apply pw_below_drewN | apply below_drew1 | refine below_set ?_ GE126.out | refine below_set ?_ GE127.out)) : w.heap.size ≤ gb134))
       have n6_ := Aside0.mk ((by rw [hg]; exact Nat.ne_of_lt (blk_lt (g := gb126) (o := .cells #[.bool a0_0, .bool a0_1, .bool a0_2, .int .i64 a0_3, .string a0_4, .bool a0_5, .int .i64 a0_6, .string a0_7] 41 (0, 0)) (by (with_reducible repeat (first | refine blk_drewN ?_ _ | refine blk_drew ?_ | refine blk_alloc ?_ _)); exact BK126.out)) : gb126 ≠ gb134))
       have n7_ := Aside0.mk ((by rw [hg]; exact Nat.ne_of_gt (blk_lt (g := gb126) (o := .cells #[.bool a0_0, .bool a0_1, .bool a0_2, .int .i64 a0_3, .string a0_4, .bool a0_5, .int .i64 a0_6, .string a0_7] 41 (0, 0)) (by (with_reducible repeat (first | refine blk_drewN ?_ _ | refine blk_drew ?_ | refine blk_alloc ?_ _)); exact BK126.out)) : gb134 ≠ gb126))
       have n8_ := Aside0.mk ((by rw [hg]; exact Nat.ne_of_lt (blk_lt (g := gb127) (o := .cells #[.bool false, .bool false, .bool false, .int .i64 0, .string (⟨#[]⟩ : ByteArray), .bool false, .int .i64 0, .string (⟨#[]⟩ : ByteArray)] 41 (0, 0)) (by (with_reducible repeat (first | refine blk_drewN ?_ _ | refine blk_drew ?_ | refine blk_alloc ?_ _)); exact BK127.out)) : gb127 ≠ gb134))
       have n9_ := Aside0.mk ((by rw [hg]; exact Nat.ne_of_gt (blk_lt (g := gb127) (o := .cells #[.bool false, .bool false, .bool false, .int .i64 0, .string (⟨#[]⟩ : ByteArray), .bool false, .int .i64 0, .string (⟨#[]⟩ : ByteArray)] 41 (0, 0)) (by (with_reducible repeat (first | refine blk_drewN ?_ _ | refine blk_drew ?_ | refine blk_alloc ?_ _)); exact BK127.out)) : gb134 ≠ gb127))
       clear BK126
       clear BK127
       clear HB
       have BK126 := n0_
       have BK127 := n1_
       have HB := n2_
       have BK134 := n3_
       have GW134 := n4_
       have GE134 := n5_
       have NB126_134 := n6_
       have NB134_126 := n7_
       have NB127_134 := n8_
       have NB134_127 := n9_
       clear n0_ n1_ n2_ n3_ n4_ n5_ n6_ n7_ n8_ n9_
       clear hb hbox hg
       refine hK.out _ _ ⟨(blk_cell BK126.out 0).trans rfl, (blk_cell BK126.out 1).trans rfl, (blk_cell BK126.out 2).trans rfl, (blk_cell BK126.out 3).trans rfl, (blk_cell BK126.out 4).trans rfl, (blk_cell BK126.out 5).trans rfl, (blk_cell BK126.out 6).trans rfl, (blk_cell BK126.out 7).trans rfl⟩ (fun hHeld => ?_)
       clear hK K
       refine norm_ (a' := ?_) ?_ ?_
       rotate_left
       ·show Act.put _ (some 3) _ = _
        simp only [Act.put, List.setIfInBounds_toArray, List.set_cons_zero, List.set_cons_succ, i64_w, i32_w]
        rfl
       exact norm_ (by first | (simp only [putAll, Act.put, List.setIfInBounds_toArray, List.set_cons_zero, List.set_cons_succ]; done) | (simp only [putAll, Act.put, List.setIfInBounds_toArray, List.set_cons_zero, List.set_cons_succ]; rfl)) (hJ2_5_6 (gb134) _ ⟨hHeld, (by (with_reducible repeat (first | refine blk_drewN ?_ _ | refine blk_drew ?_ | refine blk_alloc ?_ _)); exact BK126.out), (by (with_reducible repeat (first | refine blk_drewN ?_ _ | refine blk_drew ?_ | refine blk_alloc ?_ _)); exact BK127.out), (by (with_reducible repeat (first | refine blk_drewN ?_ _ | refine blk_drew ?_ | refine blk_alloc ?_ _)); exact BK134.out), GW134.out, GE134.out, NB126_134.out, NB134_126.out, NB127_134.out, NB134_127.out, (by with_reducible repeat first | exact HB.out | apply below_alloc | apply pw_below_drewN | apply below_drew1 | refine below_set ?_ GE126.out | refine below_set ?_ GE127.out | refine below_set ?_ GE134.out)⟩)
      ·skip
       refine box_step ?hg (N := 4) ?hd (cs := #[.bool false, .int .i64 0, .string (⟨#[]⟩ : ByteArray)]) (t := 27) ?hr ?_; (case hd => rfl); (case hg => rfl); (case hr => first | (go_simp; done) | (go_simp; rfl))
       intro gb135 hg w12 hbox hb
       have n0_ := Aside0.mk (blk_below (g := gb126) (o := .cells #[.bool a0_0, .bool a0_1, .bool a0_2, .int .i64 a0_3, .string a0_4, .bool a0_5, .int .i64 a0_6, .string a0_7] 41 (0, 0)) (by (with_reducible repeat (first | refine blk_drewN ?_ _ | refine blk_drew ?_ | refine blk_alloc ?_ _)); exact BK126.out) hb)
       have n1_ := Aside0.mk (blk_below (g := gb127) (o := .cells #[.bool false, .bool false, .bool false, .int .i64 0, .string (⟨#[]⟩ : ByteArray), .bool false, .int .i64 0, .string (⟨#[]⟩ : ByteArray)] 41 (0, 0)) (by (with_reducible repeat (first | refine blk_drewN ?_ _ | refine blk_drew ?_ | refine blk_alloc ?_ _)); exact BK127.out) hb)
       have n2_ := Aside0.mk (below_step (by with_reducible repeat first | exact HB.out | apply below_alloc | apply pw_below_drewN | apply below_drew1 | refine below_set ?_ GE126.out | refine below_set ?_ GE127.out) hb)
       have n3_ := Aside0.mk (hbox)
       have n4_ := Aside0.mk ((by rw [hg]; exact (below_size (by with_reducible repeat first | exact HB.out | apply below_alloc | apply pw_below_drewN | apply below_drew1 | refine below_set ?_ GE126.out | refine below_set ?_ GE127.out)) : w.heap.size ≤ gb135))
       have n5_ := Aside0.mk ((by rw [hg]; exact (below_size (by with_reducible repeat first | exact HB.out | apply below_alloc | apply pw_below_drewN | apply below_drew1 | refine below_set ?_ GE126.out | refine below_set ?_ GE127.out)) : w.heap.size ≤ gb135))
       have n6_ := Aside0.mk ((by rw [hg]; exact Nat.ne_of_lt (blk_lt (g := gb126) (o := .cells #[.bool a0_0, .bool a0_1, .bool a0_2, .int .i64 a0_3, .string a0_4, .bool a0_5, .int .i64 a0_6, .string a0_7] 41 (0, 0)) (by (with_reducible repeat (first | refine blk_drewN ?_ _ | refine blk_drew ?_ | refine blk_alloc ?_ _)); exact BK126.out)) : gb126 ≠ gb135))
       have n7_ := Aside0.mk ((by rw [hg]; exact Nat.ne_of_gt (blk_lt (g := gb126) (o := .cells #[.bool a0_0, .bool a0_1, .bool a0_2, .int .i64 a0_3, .string a0_4, .bool a0_5, .int .i64 a0_6, .string a0_7] 41 (0, 0)) (by (with_reducible repeat (first | refine blk_drewN ?_ _ | refine blk_drew ?_ | refine blk_alloc ?_ _)); exact BK126.out)) : gb135 ≠ gb126))
       have n8_ := Aside0.mk ((by rw [hg]; exact Nat.ne_of_lt (blk_lt (g := gb127) (o := .cells #[.bool false, .bool false, .bool false, .int .i64 0, .string (⟨#[]⟩ : ByteArray), .bool false, .int .i64 0, .string (⟨#[]⟩ : ByteArray)] 41 (0, 0)) (by (with_reducible repeat (first | refine blk_drewN ?_ _ | refine blk_drew ?_ | refine blk_alloc ?_ _)); exact BK127.out)) : gb127 ≠ gb135))
       have n9_ := Aside0.mk ((by rw [hg]; exact Nat.ne_of_gt (blk_lt (g := gb127) (o := .cells #[.bool false, .bool false, .bool false, .int .i64 0, .string (⟨#[]⟩ : ByteArray), .bool false, .int .i64 0, .string (⟨#[]⟩ : ByteArray)] 41 (0, 0)) (by (with_reducible repeat (first | refine blk_drewN ?_ _ | refine blk_drew ?_ | refine blk_alloc ?_ _)); exact BK127.out)) : gb135 ≠ gb127))
       clear BK126
       clear BK127
       clear HB
       have BK126 := n0_
       have BK127 := n1_
       have HB := n2_
       have BK135 := n3_
       have GW135 := n4_
       have GE135 := n5_
       have NB126_135 := n6_
       have NB135_126 := n7_
       have NB127_135 := n8_
       have NB135_127 := n9_
       clear n0_ n1_ n2_ n3_ n4_ n5_ n6_ n7_ n8_ n9_
       clear hb hbox hg
       refine hK.out _ _ ⟨(blk_cell BK126.out 0).trans rfl, (blk_cell BK126.out 1).trans rfl, (blk_cell BK126.out 2).trans rfl, (blk_cell BK126.out 3).trans rfl, (blk_cell BK126.out 4).trans rfl, (blk_cell BK126.out 5).trans rfl, (blk_cell BK126.out 6).trans rfl, (blk_cell BK126.out 7).trans rfl⟩ (fun hHeld => ?_)
       clear hK K
       refine norm_ (a' := ?_) ?_ ?_
       rotate_left
       ·show Act.put _ (some 4) _ = _
        simp only [Act.put, List.setIfInBounds_toArray, List.set_cons_zero, List.set_cons_succ, i64_w, i32_w]
        rfl
       exact norm_ (by first | (simp only [putAll, Act.put, List.setIfInBounds_toArray, List.set_cons_zero, List.set_cons_succ]; done) | (simp only [putAll, Act.put, List.setIfInBounds_toArray, List.set_cons_zero, List.set_cons_succ]; rfl)) (hJ2_5_7 (gb135) _ ⟨hHeld, (by (with_reducible repeat (first | refine blk_drewN ?_ _ | refine blk_drew ?_ | refine blk_alloc ?_ _)); exact BK126.out), (by (with_reducible repeat (first | refine blk_drewN ?_ _ | refine blk_drew ?_ | refine blk_alloc ?_ _)); exact BK127.out), (by (with_reducible repeat (first | refine blk_drewN ?_ _ | refine blk_drew ?_ | refine blk_alloc ?_ _)); exact BK135.out), GW135.out, GE135.out, NB126_135.out, NB135_126.out, NB127_135.out, NB135_127.out, (by with_reducible repeat first | exact HB.out | apply below_alloc | apply pw_below_drewN | apply below_drew1 | refine below_set ?_ GE126.out | refine below_set ?_ GE127.out | refine below_set ?_ GE135.out)⟩)
    ·skip
     rintro ⟨gb134, gb135⟩ w12 ⟨hS_, h0_, h1_, h2_, h3_, h4_, h5_, h6_, h7_, h8_, h9_, h10_, h11_, h12_, h13_, h14_, h15_, h16_, h17_, h18_⟩
     have n0_ : Aside0 (w12.heap[gb126]? = some (.cells #[.bool a0_0, .bool a0_1, .bool a0_2, .int .i64 a0_3, .string a0_4, .bool a0_5, .int .i64 a0_6, .string a0_7] 41 (0, 0))) := ⟨h0_⟩
     have n1_ : Aside0 (w12.heap[gb127]? = some (.cells #[.bool false, .bool false, .bool false, .int .i64 0, .string (⟨#[]⟩ : ByteArray), .bool false, .int .i64 0, .string (⟨#[]⟩ : ByteArray)] 41 (0, 0))) := ⟨h1_⟩
     have n2_ : Aside0 (w12.heap[gb134]? = some (.cells #[.bool false, .int .i64 0, .string (⟨#[]⟩ : ByteArray)] 27 (0, 0))) := ⟨h2_⟩
     have n3_ : Aside0 (w12.heap[gb135]? = some (.cells #[.bool false, .int .i64 0, .string (⟨#[]⟩ : ByteArray)] 27 (0, 0))) := ⟨h3_⟩
     have n4_ : Aside0 (w.heap.size ≤ gb134) := ⟨h4_⟩
     have n5_ : Aside0 (w.heap.size ≤ gb134) := ⟨h5_⟩
     have n6_ : Aside0 (gb126 ≠ gb134) := ⟨h6_⟩
     have n7_ : Aside0 (gb134 ≠ gb126) := ⟨h7_⟩
     have n8_ : Aside0 (gb127 ≠ gb134) := ⟨h8_⟩
     have n9_ : Aside0 (gb134 ≠ gb127) := ⟨h9_⟩
     have n10_ : Aside0 (gb135 ≠ gb134) := ⟨h10_⟩
     have n11_ : Aside0 (gb134 ≠ gb135) := ⟨h11_⟩
     have n12_ : Aside0 (w.heap.size ≤ gb135) := ⟨h12_⟩
     have n13_ : Aside0 (w.heap.size ≤ gb135) := ⟨h13_⟩
     have n14_ : Aside0 (gb126 ≠ gb135) := ⟨h14_⟩
     have n15_ : Aside0 (gb135 ≠ gb126) := ⟨h15_⟩
     have n16_ : Aside0 (gb127 ≠ gb135) := ⟨h16_⟩
     have n17_ : Aside0 (gb135 ≠ gb127) := ⟨h17_⟩
     have n18_ : Aside0 (Below w.heap.size w w12) := ⟨h18_⟩
     clear BK126
     clear BK127
     clear HB
     clear h0_ h1_ h2_ h3_ h4_ h5_ h6_ h7_ h8_ h9_ h10_ h11_ h12_ h13_ h14_ h15_ h16_ h17_ h18_
     have BK126 := n0_
     have BK127 := n1_
     have BK134 := n2_
     have BK135 := n3_
     have GW134 := n4_
     have GE134 := n5_
     have NB126_134 := n6_
     have NB134_126 := n7_
     have NB127_134 := n8_
     have NB134_127 := n9_
     have NB135_134 := n10_
     have NB134_135 := n11_
     have GW135 := n12_
     have GE135 := n13_
     have NB126_135 := n14_
     have NB135_126 := n15_
     have NB127_135 := n16_
     have NB135_127 := n17_
     have HB := n18_
     clear n0_ n1_ n2_ n3_ n4_ n5_ n6_ n7_ n8_ n9_ n10_ n11_ n12_ n13_ n14_ n15_ n16_ n17_ n18_
     have hHeld : w12.cell? ⟨gb126, 0, none⟩ = some (.bool a0_0) ∧ w12.cell? ⟨gb126, 1, none⟩ = some (.bool a0_1) ∧ w12.cell? ⟨gb126, 2, none⟩ = some (.bool a0_2) ∧ w12.cell? ⟨gb126, 3, none⟩ = some (.int .i64 a0_3) ∧ w12.cell? ⟨gb126, 4, none⟩ = some (.string a0_4) ∧ w12.cell? ⟨gb126, 5, none⟩ = some (.bool a0_5) ∧ w12.cell? ⟨gb126, 6, none⟩ = some (.int .i64 a0_6) ∧ w12.cell? ⟨gb126, 7, none⟩ = some (.string a0_7) := hS_
     refine norm_ (a' := ?_) ?_ ?_
     rotate_left
     ·simp only [putAll, Act.put, List.setIfInBounds_toArray, List.set_cons_zero, List.set_cons_succ]
      rfl
     refine one_ (i := 5) (N := some 10) #[true, true, true, true, true, true, true, true, false, false] rfl rfl (one_of HT_.out (by kernel_rfl)) (by decide) (fun K hK => ?_)
     refine goes_ Try.func48 (by kernel_rfl) rfl #[.agg #[.bool a0_5, .int .i64 a0_6, .string a0_7]] (by rfl) rfl rfl (by (try simp only [List.map_toArray, List.map_cons, List.map_nil]); first | done | rfl | (simp only [List.length_drop, List.length_take]; rfl)) ?_
     with_reducible refine (zone_solid.calls a0_5 a0_6 a0_7 t131 t132 t133 _ A3.out).mono ?_
     rintro e w13 ⟨rfl, hb⟩
     refine ⟨_, rfl, ?_⟩
     have n0_ := Aside0.mk (blk_below (g := gb126) (o := .cells #[.bool a0_0, .bool a0_1, .bool a0_2, .int .i64 a0_3, .string a0_4, .bool a0_5, .int .i64 a0_6, .string a0_7] 41 (0, 0)) (by (with_reducible repeat (first | refine blk_drewN ?_ _ | refine blk_drew ?_ | refine blk_alloc ?_ _)); exact BK126.out) hb)
     have n1_ := Aside0.mk (blk_below (g := gb127) (o := .cells #[.bool false, .bool false, .bool false, .int .i64 0, .string (⟨#[]⟩ : ByteArray), .bool false, .int .i64 0, .string (⟨#[]⟩ : ByteArray)] 41 (0, 0)) (by (with_reducible repeat (first | refine blk_drewN ?_ _ | refine blk_drew ?_ | refine blk_alloc ?_ _)); exact BK127.out) hb)
     have n2_ := Aside0.mk (blk_below (g := gb134) (o := .cells #[.bool false, .int .i64 0, .string (⟨#[]⟩ : ByteArray)] 27 (0, 0)) (by (with_reducible repeat (first | refine blk_drewN ?_ _ | refine blk_drew ?_ | refine blk_alloc ?_ _)); exact BK134.out) hb)
     have n3_ := Aside0.mk (blk_below (g := gb135) (o := .cells #[.bool false, .int .i64 0, .string (⟨#[]⟩ : ByteArray)] 27 (0, 0)) (by (with_reducible repeat (first | refine blk_drewN ?_ _ | refine blk_drew ?_ | refine blk_alloc ?_ _)); exact BK135.out) hb)
     have n4_ := Aside0.mk (below_step (by with_reducible repeat first | exact HB.out | apply below_alloc | apply pw_below_drewN | apply below_drew1 | refine below_set ?_ GE126.out | refine below_set ?_ GE127.out | refine below_set ?_ GE134.out | refine below_set ?_ GE135.out) hb)
     clear BK126
     clear BK127
     clear BK134
     clear BK135
     clear HB
     have BK126 := n0_
     have BK127 := n1_
     have BK134 := n2_
     have BK135 := n3_
     have HB := n4_
     clear n0_ n1_ n2_ n3_ n4_
     (try clear hb)
     (try clear hb2)
     (try clear hk)
     (try clear hi)
     refine hK.out _ _ ⟨(blk_cell BK126.out 0).trans rfl, (blk_cell BK126.out 1).trans rfl, (blk_cell BK126.out 2).trans rfl, (blk_cell BK126.out 3).trans rfl, (blk_cell BK126.out 4).trans rfl, (blk_cell BK126.out 5).trans rfl, (blk_cell BK126.out 6).trans rfl, (blk_cell BK126.out 7).trans rfl⟩ (fun hHeld => ?_)
     clear hK K
     refine norm_ (a' := ?_) ?_ ?_
     rotate_left
     ·show Act.put _ (some 10) _ = _
      simp only [Act.put, List.setIfInBounds_toArray, List.set_cons_zero, List.set_cons_succ, i64_w, i32_w]
      rfl
     exact norm_ (by first | (simp only [putAll, Act.put, List.setIfInBounds_toArray, List.set_cons_zero, List.set_cons_succ]; done) | (simp only [putAll, Act.put, List.setIfInBounds_toArray, List.set_cons_zero, List.set_cons_succ]; rfl)) (hJ2_5_6_7 (gb134, gb135) _ ⟨hHeld, (by (with_reducible repeat (first | refine blk_drewN ?_ _ | refine blk_drew ?_ | refine blk_alloc ?_ _)); exact BK126.out), (by (with_reducible repeat (first | refine blk_drewN ?_ _ | refine blk_drew ?_ | refine blk_alloc ?_ _)); exact BK127.out), (by (with_reducible repeat (first | refine blk_drewN ?_ _ | refine blk_drew ?_ | refine blk_alloc ?_ _)); exact BK134.out), (by (with_reducible repeat (first | refine blk_drewN ?_ _ | refine blk_drew ?_ | refine blk_alloc ?_ _)); exact BK135.out), GW134.out, GE134.out, NB126_134.out, NB134_126.out, NB127_134.out, NB134_127.out, NB135_134.out, NB134_135.out, GW135.out, GE135.out, NB126_135.out, NB135_126.out, NB127_135.out, NB135_127.out, (by with_reducible repeat first | exact HB.out | apply below_alloc | apply pw_below_drewN | apply below_drew1 | refine below_set ?_ GE126.out | refine below_set ?_ GE127.out | refine below_set ?_ GE134.out | refine below_set ?_ GE135.out)⟩)
   ·skip
    rintro gb135 w12 ⟨hS_, h0_, h1_, h2_, h3_, h4_, h5_, h6_, h7_, h8_, h9_⟩
    have n0_ : Aside0 (w12.heap[gb126]? = some (.cells #[.bool a0_0, .bool a0_1, .bool a0_2, .int .i64 a0_3, .string a0_4, .bool a0_5, .int .i64 a0_6, .string a0_7] 41 (0, 0))) := ⟨h0_⟩
    have n1_ : Aside0 (w12.heap[gb127]? = some (.cells #[.bool false, .bool false, .bool false, .int .i64 0, .string (⟨#[]⟩ : ByteArray), .bool false, .int .i64 0, .string (⟨#[]⟩ : ByteArray)] 41 (0, 0))) := ⟨h1_⟩
    have n2_ : Aside0 (w12.heap[gb135]? = some (.cells #[.bool false, .int .i64 0, .string (⟨#[]⟩ : ByteArray)] 27 (0, 0))) := ⟨h2_⟩
    have n3_ : Aside0 (w.heap.size ≤ gb135) := ⟨h3_⟩
    have n4_ : Aside0 (w.heap.size ≤ gb135) := ⟨h4_⟩
    have n5_ : Aside0 (gb126 ≠ gb135) := ⟨h5_⟩
    have n6_ : Aside0 (gb135 ≠ gb126) := ⟨h6_⟩
    have n7_ : Aside0 (gb127 ≠ gb135) := ⟨h7_⟩
    have n8_ : Aside0 (gb135 ≠ gb127) := ⟨h8_⟩
    have n9_ : Aside0 (Below w.heap.size w w12) := ⟨h9_⟩
    clear BK126
    clear BK127
    clear HB
    clear h0_ h1_ h2_ h3_ h4_ h5_ h6_ h7_ h8_ h9_
    have BK126 := n0_
    have BK127 := n1_
    have BK135 := n2_
    have GW135 := n3_
    have GE135 := n4_
    have NB126_135 := n5_
    have NB135_126 := n6_
    have NB127_135 := n7_
    have NB135_127 := n8_
    have HB := n9_
    clear n0_ n1_ n2_ n3_ n4_ n5_ n6_ n7_ n8_ n9_
    have hHeld : w12.cell? ⟨gb126, 0, none⟩ = some (.bool a0_0) ∧ w12.cell? ⟨gb126, 1, none⟩ = some (.bool a0_1) ∧ w12.cell? ⟨gb126, 2, none⟩ = some (.bool a0_2) ∧ w12.cell? ⟨gb126, 3, none⟩ = some (.int .i64 a0_3) ∧ w12.cell? ⟨gb126, 4, none⟩ = some (.string a0_4) ∧ w12.cell? ⟨gb126, 5, none⟩ = some (.bool a0_5) ∧ w12.cell? ⟨gb126, 6, none⟩ = some (.int .i64 a0_6) ∧ w12.cell? ⟨gb126, 7, none⟩ = some (.string a0_7) := hS_
    refine norm_ (a' := ?_) ?_ ?_
    rotate_left
    ·simp only [putAll, Act.put, List.setIfInBounds_toArray, List.set_cons_zero, List.set_cons_succ]
     rfl
    refine one_ (i := 6) (N := some 3) #[true, true, true, true, true, true, true, true, false, false] rfl rfl (one_of HT_.out (by kernel_rfl)) (by decide) (fun K hK => ?_)
    refine box_step ?hg (N := 3) ?hd (cs := #[.bool false, .int .i64 0, .string (⟨#[]⟩ : ByteArray)]) (t := 27) ?hr ?_; (case hd => rfl); (case hg => rfl); (case hr => first | (go_simp; done) | (go_simp; rfl))
    intro gb134 hg w13 hbox hb
    have n0_ := Aside0.mk (blk_below (g := gb126) (o := .cells #[.bool a0_0, .bool a0_1, .bool a0_2, .int .i64 a0_3, .string a0_4, .bool a0_5, .int .i64 a0_6, .string a0_7] 41 (0, 0)) (by (with_reducible repeat (first | refine blk_drewN ?_ _ | refine blk_drew ?_ | refine blk_alloc ?_ _)); exact BK126.out) hb)
    have n1_ := Aside0.mk (blk_below (g := gb127) (o := .cells #[.bool false, .bool false, .bool false, .int .i64 0, .string (⟨#[]⟩ : ByteArray), .bool false, .int .i64 0, .string (⟨#[]⟩ : ByteArray)] 41 (0, 0)) (by (with_reducible repeat (first | refine blk_drewN ?_ _ | refine blk_drew ?_ | refine blk_alloc ?_ _)); exact BK127.out) hb)
    have n2_ := Aside0.mk (blk_below (g := gb135) (o := .cells #[.bool false, .int .i64 0, .string (⟨#[]⟩ : ByteArray)] 27 (0, 0)) (by (with_reducible repeat (first | refine blk_drewN ?_ _ | refine blk_drew ?_ | refine blk_alloc ?_ _)); exact BK135.out) hb)
    have n3_ := Aside0.mk (below_step (by with_reducible repeat first | exact HB.out | apply below_alloc | apply pw_below_drewN | apply below_drew1 | refine below_set ?_ GE126.out | refine below_set ?_ GE127.out | refine below_set ?_ GE135.out) hb)
    have n4_ := Aside0.mk (hbox)
    have n5_ := Aside0.mk ((by rw [hg]; exact (below_size (by with_reducible repeat first | exact HB.out | apply below_alloc | apply pw_below_drewN | apply below_drew1 | refine below_set ?_ GE126.out | refine below_set ?_ GE127.out | refine below_set ?_ GE135.out)) : w.heap.size ≤ gb134))
    have n6_ := Aside0.mk ((by rw [hg]; exact (below_size (by with_reducible repeat first | exact HB.out | apply below_alloc | apply pw_below_drewN | apply below_drew1 | refine below_set ?_ GE126.out | refine below_set ?_ GE127.out | refine below_set ?_ GE135.out)) : w.heap.size ≤ gb134))
    have n7_ := Aside0.mk ((by rw [hg]; exact Nat.ne_of_lt (blk_lt (g := gb126) (o := .cells #[.bool a0_0, .bool a0_1, .bool a0_2, .int .i64 a0_3, .string a0_4, .bool a0_5, .int .i64 a0_6, .string a0_7] 41 (0, 0)) (by (with_reducible repeat (first | refine blk_drewN ?_ _ | refine blk_drew ?_ | refine blk_alloc ?_ _)); exact BK126.out)) : gb126 ≠ gb134))
    have n8_ := Aside0.mk ((by rw [hg]; exact Nat.ne_of_gt (blk_lt (g := gb126) (o := .cells #[.bool a0_0, .bool a0_1, .bool a0_2, .int .i64 a0_3, .string a0_4, .bool a0_5, .int .i64 a0_6, .string a0_7] 41 (0, 0)) (by (with_reducible repeat (first | refine blk_drewN ?_ _ | refine blk_drew ?_ | refine blk_alloc ?_ _)); exact BK126.out)) : gb134 ≠ gb126))
    have n9_ := Aside0.mk ((by rw [hg]; exact Nat.ne_of_lt (blk_lt (g := gb127) (o := .cells #[.bool false, .bool false, .bool false, .int .i64 0, .string (⟨#[]⟩ : ByteArray), .bool false, .int .i64 0, .string (⟨#[]⟩ : ByteArray)] 41 (0, 0)) (by (with_reducible repeat (first | refine blk_drewN ?_ _ | refine blk_drew ?_ | refine blk_alloc ?_ _)); exact BK127.out)) : gb127 ≠ gb134))
    have n10_ := Aside0.mk ((by rw [hg]; exact Nat.ne_of_gt (blk_lt (g := gb127) (o := .cells #[.bool false, .bool false, .bool false, .int .i64 0, .string (⟨#[]⟩ : ByteArray), .bool false, .int .i64 0, .string (⟨#[]⟩ : ByteArray)] 41 (0, 0)) (by (with_reducible repeat (first | refine blk_drewN ?_ _ | refine blk_drew ?_ | refine blk_alloc ?_ _)); exact BK127.out)) : gb134 ≠ gb127))
    have n11_ := Aside0.mk ((by rw [hg]; exact Nat.ne_of_lt (blk_lt (g := gb135) (o := .cells #[.bool false, .int .i64 0, .string (⟨#[]⟩ : ByteArray)] 27 (0, 0)) (by (with_reducible repeat (first | refine blk_drewN ?_ _ | refine blk_drew ?_ | refine blk_alloc ?_ _)); exact BK135.out)) : gb135 ≠ gb134))
    have n12_ := Aside0.mk ((by rw [hg]; exact Nat.ne_of_gt (blk_lt (g := gb135) (o := .cells #[.bool false, .int .i64 0, .string (⟨#[]⟩ : ByteArray)] 27 (0, 0)) (by (with_reducible repeat (first | refine blk_drewN ?_ _ | refine blk_drew ?_ | refine blk_alloc ?_ _)); exact BK135.out)) : gb134 ≠ gb135))
    clear BK126
    clear BK127
    clear BK135
    clear HB
    have BK126 := n0_
    have BK127 := n1_
    have BK135 := n2_
    have HB := n3_
    have BK134 := n4_
    have GW134 := n5_
    have GE134 := n6_
    have NB126_134 := n7_
    have NB134_126 := n8_
    have NB127_134 := n9_
    have NB134_127 := n10_
    have NB135_134 := n11_
    have NB134_135 := n12_
    clear n0_ n1_ n2_ n3_ n4_ n5_ n6_ n7_ n8_ n9_ n10_ n11_ n12_
    clear hb hbox hg
    refine hK.out _ _ ⟨(blk_cell BK126.out 0).trans rfl, (blk_cell BK126.out 1).trans rfl, (blk_cell BK126.out 2).trans rfl, (blk_cell BK126.out 3).trans rfl, (blk_cell BK126.out 4).trans rfl, (blk_cell BK126.out 5).trans rfl, (blk_cell BK126.out 6).trans rfl, (blk_cell BK126.out 7).trans rfl⟩ (fun hHeld => ?_)
    clear hK K
    refine norm_ (a' := ?_) ?_ ?_
    rotate_left
    ·show Act.put _ (some 3) _ = _
     simp only [Act.put, List.setIfInBounds_toArray, List.set_cons_zero, List.set_cons_succ, i64_w, i32_w]
     rfl
    exact norm_ (by first | (simp only [putAll, Act.put, List.setIfInBounds_toArray, List.set_cons_zero, List.set_cons_succ]; done) | (simp only [putAll, Act.put, List.setIfInBounds_toArray, List.set_cons_zero, List.set_cons_succ]; rfl)) (hJ2_5_6_7 (gb134, gb135) _ ⟨hHeld, (by (with_reducible repeat (first | refine blk_drewN ?_ _ | refine blk_drew ?_ | refine blk_alloc ?_ _)); exact BK126.out), (by (with_reducible repeat (first | refine blk_drewN ?_ _ | refine blk_drew ?_ | refine blk_alloc ?_ _)); exact BK127.out), (by (with_reducible repeat (first | refine blk_drewN ?_ _ | refine blk_drew ?_ | refine blk_alloc ?_ _)); exact BK134.out), (by (with_reducible repeat (first | refine blk_drewN ?_ _ | refine blk_drew ?_ | refine blk_alloc ?_ _)); exact BK135.out), GW134.out, GE134.out, NB126_134.out, NB134_126.out, NB127_134.out, NB134_127.out, NB135_134.out, NB134_135.out, GW135.out, GE135.out, NB126_135.out, NB135_126.out, NB127_135.out, NB135_127.out, (by with_reducible repeat first | exact HB.out | apply below_alloc | apply pw_below_drewN | apply below_drew1 | refine below_set ?_ GE126.out | refine below_set ?_ GE127.out | refine below_set ?_ GE135.out | refine below_set ?_ GE134.out)⟩)
  ·skip
   rintro gb134 w12 ⟨hS_, h0_, h1_, h2_, h3_, h4_, h5_, h6_, h7_, h8_, h9_⟩
   have n0_ : Aside0 (w12.heap[gb126]? = some (.cells #[.bool a0_0, .bool a0_1, .bool a0_2, .int .i64 a0_3, .string a0_4, .bool a0_5, .int .i64 a0_6, .string a0_7] 41 (0, 0))) := ⟨h0_⟩
   have n1_ : Aside0 (w12.heap[gb127]? = some (.cells #[.bool false, .bool false, .bool false, .int .i64 0, .string (⟨#[]⟩ : ByteArray), .bool false, .int .i64 0, .string (⟨#[]⟩ : ByteArray)] 41 (0, 0))) := ⟨h1_⟩
   have n2_ : Aside0 (w12.heap[gb134]? = some (.cells #[.bool false, .int .i64 0, .string (⟨#[]⟩ : ByteArray)] 27 (0, 0))) := ⟨h2_⟩
   have n3_ : Aside0 (w.heap.size ≤ gb134) := ⟨h3_⟩
   have n4_ : Aside0 (w.heap.size ≤ gb134) := ⟨h4_⟩
   have n5_ : Aside0 (gb126 ≠ gb134) := ⟨h5_⟩
   have n6_ : Aside0 (gb134 ≠ gb126) := ⟨h6_⟩
   have n7_ : Aside0 (gb127 ≠ gb134) := ⟨h7_⟩
   have n8_ : Aside0 (gb134 ≠ gb127) := ⟨h8_⟩
   have n9_ : Aside0 (Below w.heap.size w w12) := ⟨h9_⟩
   clear BK126
   clear BK127
   clear HB
   clear h0_ h1_ h2_ h3_ h4_ h5_ h6_ h7_ h8_ h9_
   have BK126 := n0_
   have BK127 := n1_
   have BK134 := n2_
   have GW134 := n3_
   have GE134 := n4_
   have NB126_134 := n5_
   have NB134_126 := n6_
   have NB127_134 := n7_
   have NB134_127 := n8_
   have HB := n9_
   clear n0_ n1_ n2_ n3_ n4_ n5_ n6_ n7_ n8_ n9_
   have hHeld : w12.cell? ⟨gb126, 0, none⟩ = some (.bool a0_0) ∧ w12.cell? ⟨gb126, 1, none⟩ = some (.bool a0_1) ∧ w12.cell? ⟨gb126, 2, none⟩ = some (.bool a0_2) ∧ w12.cell? ⟨gb126, 3, none⟩ = some (.int .i64 a0_3) ∧ w12.cell? ⟨gb126, 4, none⟩ = some (.string a0_4) ∧ w12.cell? ⟨gb126, 5, none⟩ = some (.bool a0_5) ∧ w12.cell? ⟨gb126, 6, none⟩ = some (.int .i64 a0_6) ∧ w12.cell? ⟨gb126, 7, none⟩ = some (.string a0_7) := hS_
   refine norm_ (a' := ?_) ?_ ?_
   rotate_left
   ·simp only [putAll, Act.put, List.setIfInBounds_toArray, List.set_cons_zero, List.set_cons_succ]
    rfl
   refine one_ (i := 7) (N := some 4) #[true, true, true, true, true, true, true, true, false, false] rfl rfl (one_of HT_.out (by kernel_rfl)) (by decide) (fun K hK => ?_)
   refine box_step ?hg (N := 4) ?hd (cs := #[.bool false, .int .i64 0, .string (⟨#[]⟩ : ByteArray)]) (t := 27) ?hr ?_; (case hd => rfl); (case hg => rfl); (case hr => first | (go_simp; done) | (go_simp; rfl))
   intro gb135 hg w13 hbox hb
   have n0_ := Aside0.mk (blk_below (g := gb126) (o := .cells #[.bool a0_0, .bool a0_1, .bool a0_2, .int .i64 a0_3, .string a0_4, .bool a0_5, .int .i64 a0_6, .string a0_7] 41 (0, 0)) (by (with_reducible repeat (first | refine blk_drewN ?_ _ | refine blk_drew ?_ | refine blk_alloc ?_ _)); exact BK126.out) hb)
   have n1_ := Aside0.mk (blk_below (g := gb127) (o := .cells #[.bool false, .bool false, .bool false, .int .i64 0, .string (⟨#[]⟩ : ByteArray), .bool false, .int .i64 0, .string (⟨#[]⟩ : ByteArray)] 41 (0, 0)) (by (with_reducible repeat (first | refine blk_drewN ?_ _ | refine blk_drew ?_ | refine blk_alloc ?_ _)); exact BK127.out) hb)
   have n2_ := Aside0.mk (blk_below (g := gb134) (o := .cells #[.bool false, .int .i64 0, .string (⟨#[]⟩ : ByteArray)] 27 (0, 0)) (by (with_reducible repeat (first | refine blk_drewN ?_ _ | refine blk_drew ?_ | refine blk_alloc ?_ _)); exact BK134.out) hb)
   have n3_ := Aside0.mk (below_step (by with_reducible repeat first | exact HB.out | apply below_alloc | apply pw_below_drewN | apply below_drew1 | refine below_set ?_ GE126.out | refine below_set ?_ GE127.out | refine below_set ?_ GE134.out) hb)
   have n4_ := Aside0.mk (hbox)
   have n5_ := Aside0.mk ((by rw [hg]; exact (below_size (by with_reducible repeat first | exact HB.out | apply below_alloc | apply pw_below_drewN | apply below_drew1 | refine below_set ?_ GE126.out | refine below_set ?_ GE127.out | refine below_set ?_ GE134.out)) : w.heap.size ≤ gb135))
   have n6_ := Aside0.mk ((by rw [hg]; exact (below_size (by with_reducible repeat first | exact HB.out | apply below_alloc | apply pw_below_drewN | apply below_drew1 | refine below_set ?_ GE126.out | refine below_set ?_ GE127.out | refine below_set ?_ GE134.out)) : w.heap.size ≤ gb135))
   have n7_ := Aside0.mk ((by rw [hg]; exact Nat.ne_of_lt (blk_lt (g := gb126) (o := .cells #[.bool a0_0, .bool a0_1, .bool a0_2, .int .i64 a0_3, .string a0_4, .bool a0_5, .int .i64 a0_6, .string a0_7] 41 (0, 0)) (by (with_reducible repeat (first | refine blk_drewN ?_ _ | refine blk_drew ?_ | refine blk_alloc ?_ _)); exact BK126.out)) : gb126 ≠ gb135))
   have n8_ := Aside0.mk ((by rw [hg]; exact Nat.ne_of_gt (blk_lt (g := gb126) (o := .cells #[.bool a0_0, .bool a0_1, .bool a0_2, .int .i64 a0_3, .string a0_4, .bool a0_5, .int .i64 a0_6, .string a0_7] 41 (0, 0)) (by (with_reducible repeat (first | refine blk_drewN ?_ _ | refine blk_drew ?_ | refine blk_alloc ?_ _)); exact BK126.out)) : gb135 ≠ gb126))
   have n9_ := Aside0.mk ((by rw [hg]; exact Nat.ne_of_lt (blk_lt (g := gb127) (o := .cells #[.bool false, .bool false, .bool false, .int .i64 0, .string (⟨#[]⟩ : ByteArray), .bool false, .int .i64 0, .string (⟨#[]⟩ : ByteArray)] 41 (0, 0)) (by (with_reducible repeat (first | refine blk_drewN ?_ _ | refine blk_drew ?_ | refine blk_alloc ?_ _)); exact BK127.out)) : gb127 ≠ gb135))
   have n10_ := Aside0.mk ((by rw [hg]; exact Nat.ne_of_gt (blk_lt (g := gb127) (o := .cells #[.bool false, .bool false, .bool false, .int .i64 0, .string (⟨#[]⟩ : ByteArray), .bool false, .int .i64 0, .string (⟨#[]⟩ : ByteArray)] 41 (0, 0)) (by (with_reducible repeat (first | refine blk_drewN ?_ _ | refine blk_drew ?_ | refine blk_alloc ?_ _)); exact BK127.out)) : gb135 ≠ gb127))
   have n11_ := Aside0.mk ((by rw [hg]; exact Nat.ne_of_lt (blk_lt (g := gb134) (o := .cells #[.bool false, .int .i64 0, .string (⟨#[]⟩ : ByteArray)] 27 (0, 0)) (by (with_reducible repeat (first | refine blk_drewN ?_ _ | refine blk_drew ?_ | refine blk_alloc ?_ _)); exact BK134.out)) : gb134 ≠ gb135))
   have n12_ := Aside0.mk ((by rw [hg]; exact Nat.ne_of_gt (blk_lt (g := gb134) (o := .cells #[.bool false, .int .i64 0, .string (⟨#[]⟩ : ByteArray)] 27 (0, 0)) (by (with_reducible repeat (first | refine blk_drewN ?_ _ | refine blk_drew ?_ | refine blk_alloc ?_ _)); exact BK134.out)) : gb135 ≠ gb134))
   clear BK126
   clear BK127
   clear BK134
   clear HB
   have BK126 := n0_
   have BK127 := n1_
   have BK134 := n2_
   have HB := n3_
   have BK135 := n4_
   have GW135 := n5_
   have GE135 := n6_
   have NB126_135 := n7_
   have NB135_126 := n8_
   have NB127_135 := n9_
   have NB135_127 := n10_
   have NB134_135 := n11_
   have NB135_134 := n12_
   clear n0_ n1_ n2_ n3_ n4_ n5_ n6_ n7_ n8_ n9_ n10_ n11_ n12_
   clear hb hbox hg
   refine hK.out _ _ ⟨(blk_cell BK126.out 0).trans rfl, (blk_cell BK126.out 1).trans rfl, (blk_cell BK126.out 2).trans rfl, (blk_cell BK126.out 3).trans rfl, (blk_cell BK126.out 4).trans rfl, (blk_cell BK126.out 5).trans rfl, (blk_cell BK126.out 6).trans rfl, (blk_cell BK126.out 7).trans rfl⟩ (fun hHeld => ?_)
   clear hK K
   refine norm_ (a' := ?_) ?_ ?_
   rotate_left
   ·show Act.put _ (some 4) _ = _
    simp only [Act.put, List.setIfInBounds_toArray, List.set_cons_zero, List.set_cons_succ, i64_w, i32_w]
    rfl
   exact norm_ (by first | (simp only [putAll, Act.put, List.setIfInBounds_toArray, List.set_cons_zero, List.set_cons_succ]; done) | (simp only [putAll, Act.put, List.setIfInBounds_toArray, List.set_cons_zero, List.set_cons_succ]; rfl)) (hJ2_5_6_7 (gb134, gb135) _ ⟨hHeld, (by (with_reducible repeat (first | refine blk_drewN ?_ _ | refine blk_drew ?_ | refine blk_alloc ?_ _)); exact BK126.out), (by (with_reducible repeat (first | refine blk_drewN ?_ _ | refine blk_drew ?_ | refine blk_alloc ?_ _)); exact BK127.out), (by (with_reducible repeat (first | refine blk_drewN ?_ _ | refine blk_drew ?_ | refine blk_alloc ?_ _)); exact BK134.out), (by (with_reducible repeat (first | refine blk_drewN ?_ _ | refine blk_drew ?_ | refine blk_alloc ?_ _)); exact BK135.out), GW134.out, GE134.out, NB126_134.out, NB134_126.out, NB127_134.out, NB134_127.out, NB135_134.out, NB134_135.out, GW135.out, GE135.out, NB126_135.out, NB135_126.out, NB127_135.out, NB135_127.out, (by with_reducible repeat first | exact HB.out | apply below_alloc | apply pw_below_drewN | apply below_drew1 | refine below_set ?_ GE126.out | refine below_set ?_ GE127.out | refine below_set ?_ GE134.out | refine below_set ?_ GE135.out)⟩)
 rintro ⟨gb134, gb135⟩ w13 ⟨hS_, h0_, h1_, h2_, h3_, h4_, h5_, h6_, h7_, h8_, h9_, h10_, h11_, h12_, h13_, h14_, h15_, h16_, h17_, h18_⟩
 have n0_ : Aside0 (w13.heap[gb126]? = some (.cells #[.bool a0_0, .bool a0_1, .bool a0_2, .int .i64 a0_3, .string a0_4, .bool a0_5, .int .i64 a0_6, .string a0_7] 41 (0, 0))) := ⟨h0_⟩
 have n1_ : Aside0 (w13.heap[gb127]? = some (.cells #[.bool false, .bool false, .bool false, .int .i64 0, .string (⟨#[]⟩ : ByteArray), .bool false, .int .i64 0, .string (⟨#[]⟩ : ByteArray)] 41 (0, 0))) := ⟨h1_⟩
 have n2_ : Aside0 (w13.heap[gb134]? = some (.cells #[.bool false, .int .i64 0, .string (⟨#[]⟩ : ByteArray)] 27 (0, 0))) := ⟨h2_⟩
 have n3_ : Aside0 (w13.heap[gb135]? = some (.cells #[.bool false, .int .i64 0, .string (⟨#[]⟩ : ByteArray)] 27 (0, 0))) := ⟨h3_⟩
 have n4_ : Aside0 (w.heap.size ≤ gb134) := ⟨h4_⟩
 have n5_ : Aside0 (w.heap.size ≤ gb134) := ⟨h5_⟩
 have n6_ : Aside0 (gb126 ≠ gb134) := ⟨h6_⟩
 have n7_ : Aside0 (gb134 ≠ gb126) := ⟨h7_⟩
 have n8_ : Aside0 (gb127 ≠ gb134) := ⟨h8_⟩
 have n9_ : Aside0 (gb134 ≠ gb127) := ⟨h9_⟩
 have n10_ : Aside0 (gb135 ≠ gb134) := ⟨h10_⟩
 have n11_ : Aside0 (gb134 ≠ gb135) := ⟨h11_⟩
 have n12_ : Aside0 (w.heap.size ≤ gb135) := ⟨h12_⟩
 have n13_ : Aside0 (w.heap.size ≤ gb135) := ⟨h13_⟩
 have n14_ : Aside0 (gb126 ≠ gb135) := ⟨h14_⟩
 have n15_ : Aside0 (gb135 ≠ gb126) := ⟨h15_⟩
 have n16_ : Aside0 (gb127 ≠ gb135) := ⟨h16_⟩
 have n17_ : Aside0 (gb135 ≠ gb127) := ⟨h17_⟩
 have n18_ : Aside0 (Below w.heap.size w w13) := ⟨h18_⟩
 clear BK126
 clear BK127
 clear HB
 clear h0_ h1_ h2_ h3_ h4_ h5_ h6_ h7_ h8_ h9_ h10_ h11_ h12_ h13_ h14_ h15_ h16_ h17_ h18_
 have BK126 := n0_
 have BK127 := n1_
 have BK134 := n2_
 have BK135 := n3_
 have GW134 := n4_
 have GE134 := n5_
 have NB126_134 := n6_
 have NB134_126 := n7_
 have NB127_134 := n8_
 have NB134_127 := n9_
 have NB135_134 := n10_
 have NB134_135 := n11_
 have GW135 := n12_
 have GE135 := n13_
 have NB126_135 := n14_
 have NB135_126 := n15_
 have NB127_135 := n16_
 have NB135_127 := n17_
 have HB := n18_
 clear n0_ n1_ n2_ n3_ n4_ n5_ n6_ n7_ n8_ n9_ n10_ n11_ n12_ n13_ n14_ n15_ n16_ n17_ n18_
 have hHeld : w13.cell? ⟨gb126, 0, none⟩ = some (.bool a0_0) ∧ w13.cell? ⟨gb126, 1, none⟩ = some (.bool a0_1) ∧ w13.cell? ⟨gb126, 2, none⟩ = some (.bool a0_2) ∧ w13.cell? ⟨gb126, 3, none⟩ = some (.int .i64 a0_3) ∧ w13.cell? ⟨gb126, 4, none⟩ = some (.string a0_4) ∧ w13.cell? ⟨gb126, 5, none⟩ = some (.bool a0_5) ∧ w13.cell? ⟨gb126, 6, none⟩ = some (.int .i64 a0_6) ∧ w13.cell? ⟨gb126, 7, none⟩ = some (.string a0_7) := hS_
 refine norm_ (a' := ?_) ?_ ?_
 rotate_left
 ·simp only [putAll, Act.put, List.setIfInBounds_toArray, List.set_cons_zero, List.set_cons_succ]
  rfl
 refine one_ (i := 8) (N := none) #[true, true, true, true, true, true, true, true, true, false] rfl rfl (one_of HT_.out (by kernel_rfl)) (by decide) (fun K hK => ?_)
 have hs14 : w13.cell? ⟨gb134, 0, none⟩ = some (.bool false) := (blk_cell BK134.out 0).trans rfl
 have hfs14 := blk_frozen BK134.out 0
 have hns14_0 := NB126_134.out
 have hns14_1 := NB127_134.out
 have hns14_3 := NB135_134.out
 have hms14_0 := NB134_126.out
 have hms14_1 := NB134_127.out
 have hms14_3 := NB134_135.out
 have hs15 : w13.cell? ⟨gb134, 1, none⟩ = some (.int .i64 0) := (blk_cell BK134.out 1).trans rfl
 have hfs15 := blk_frozen BK134.out 1
 have hns15_0 := NB126_134.out
 have hns15_1 := NB127_134.out
 have hns15_3 := NB135_134.out
 have hms15_0 := NB134_126.out
 have hms15_1 := NB134_127.out
 have hms15_3 := NB134_135.out
 have hs16 : w13.cell? ⟨gb134, 2, none⟩ = some (.string (⟨#[]⟩ : ByteArray)) := (blk_cell BK134.out 2).trans rfl
 have hfs16 := blk_frozen BK134.out 2
 have hns16_0 := NB126_134.out
 have hns16_1 := NB127_134.out
 have hns16_3 := NB135_134.out
 have hms16_0 := NB134_126.out
 have hms16_1 := NB134_127.out
 have hms16_3 := NB134_135.out
 refine skip_ (w1 := ?_) (by rfl) rfl ?_ ?_
 rotate_left
 ·go_simp
  rfl
 refine hK.out _ _ ⟨((cell_far (p := ⟨gb134, _, none⟩) NB126_134.out _).trans (((cell_far (p := ⟨gb134, _, none⟩) NB126_134.out _).trans (((cell_far (p := ⟨gb134, _, none⟩) NB126_134.out _).trans (hHeld.1)))))), ((cell_far (p := ⟨gb134, _, none⟩) NB126_134.out _).trans (((cell_far (p := ⟨gb134, _, none⟩) NB126_134.out _).trans (((cell_far (p := ⟨gb134, _, none⟩) NB126_134.out _).trans (hHeld.2.1)))))), ((cell_far (p := ⟨gb134, _, none⟩) NB126_134.out _).trans (((cell_far (p := ⟨gb134, _, none⟩) NB126_134.out _).trans (((cell_far (p := ⟨gb134, _, none⟩) NB126_134.out _).trans (hHeld.2.2.1)))))), ((cell_far (p := ⟨gb134, _, none⟩) NB126_134.out _).trans (((cell_far (p := ⟨gb134, _, none⟩) NB126_134.out _).trans (((cell_far (p := ⟨gb134, _, none⟩) NB126_134.out _).trans (hHeld.2.2.2.1)))))), ((cell_far (p := ⟨gb134, _, none⟩) NB126_134.out _).trans (((cell_far (p := ⟨gb134, _, none⟩) NB126_134.out _).trans (((cell_far (p := ⟨gb134, _, none⟩) NB126_134.out _).trans (hHeld.2.2.2.2.1)))))), ((cell_far (p := ⟨gb134, _, none⟩) NB126_134.out _).trans (((cell_far (p := ⟨gb134, _, none⟩) NB126_134.out _).trans (((cell_far (p := ⟨gb134, _, none⟩) NB126_134.out _).trans (hHeld.2.2.2.2.2.1)))))), ((cell_far (p := ⟨gb134, _, none⟩) NB126_134.out _).trans (((cell_far (p := ⟨gb134, _, none⟩) NB126_134.out _).trans (((cell_far (p := ⟨gb134, _, none⟩) NB126_134.out _).trans (hHeld.2.2.2.2.2.2.1)))))), ((cell_far (p := ⟨gb134, _, none⟩) NB126_134.out _).trans (((cell_far (p := ⟨gb134, _, none⟩) NB126_134.out _).trans (((cell_far (p := ⟨gb134, _, none⟩) NB126_134.out _).trans (hHeld.2.2.2.2.2.2.2))))))⟩ (fun hHeld => ?_)
 clear hK K
 refine one_ (i := 9) (N := none) #[true, true, true, true, true, true, true, true, true, true] rfl rfl (one_of HT_.out (by kernel_rfl)) (by decide) (fun K hK => ?_)
 have hs17 : w13.cell? ⟨gb135, 0, none⟩ = some (.bool false) := (blk_cell BK135.out 0).trans rfl
 have hfs17 := blk_frozen BK135.out 0
 have hns17_0 := NB126_135.out
 have hns17_1 := NB127_135.out
 have hns17_2 := NB134_135.out
 have hms17_0 := NB135_126.out
 have hms17_1 := NB135_127.out
 have hms17_2 := NB135_134.out
 have hs18 : w13.cell? ⟨gb135, 1, none⟩ = some (.int .i64 0) := (blk_cell BK135.out 1).trans rfl
 have hfs18 := blk_frozen BK135.out 1
 have hns18_0 := NB126_135.out
 have hns18_1 := NB127_135.out
 have hns18_2 := NB134_135.out
 have hms18_0 := NB135_126.out
 have hms18_1 := NB135_127.out
 have hms18_2 := NB135_134.out
 have hs19 : w13.cell? ⟨gb135, 2, none⟩ = some (.string (⟨#[]⟩ : ByteArray)) := (blk_cell BK135.out 2).trans rfl
 have hfs19 := blk_frozen BK135.out 2
 have hns19_0 := NB126_135.out
 have hns19_1 := NB127_135.out
 have hns19_2 := NB134_135.out
 have hms19_0 := NB135_126.out
 have hms19_1 := NB135_127.out
 have hms19_2 := NB135_134.out
 refine skip_ (w1 := ?_) (by rfl) rfl ?_ ?_
 rotate_left
 ·go_simp
  rfl
 refine hK.out _ _ ⟨((cell_far (p := ⟨gb135, _, none⟩) NB126_135.out _).trans (((cell_far (p := ⟨gb135, _, none⟩) NB126_135.out _).trans (((cell_far (p := ⟨gb135, _, none⟩) NB126_135.out _).trans (hHeld.1)))))), ((cell_far (p := ⟨gb135, _, none⟩) NB126_135.out _).trans (((cell_far (p := ⟨gb135, _, none⟩) NB126_135.out _).trans (((cell_far (p := ⟨gb135, _, none⟩) NB126_135.out _).trans (hHeld.2.1)))))), ((cell_far (p := ⟨gb135, _, none⟩) NB126_135.out _).trans (((cell_far (p := ⟨gb135, _, none⟩) NB126_135.out _).trans (((cell_far (p := ⟨gb135, _, none⟩) NB126_135.out _).trans (hHeld.2.2.1)))))), ((cell_far (p := ⟨gb135, _, none⟩) NB126_135.out _).trans (((cell_far (p := ⟨gb135, _, none⟩) NB126_135.out _).trans (((cell_far (p := ⟨gb135, _, none⟩) NB126_135.out _).trans (hHeld.2.2.2.1)))))), ((cell_far (p := ⟨gb135, _, none⟩) NB126_135.out _).trans (((cell_far (p := ⟨gb135, _, none⟩) NB126_135.out _).trans (((cell_far (p := ⟨gb135, _, none⟩) NB126_135.out _).trans (hHeld.2.2.2.2.1)))))), ((cell_far (p := ⟨gb135, _, none⟩) NB126_135.out _).trans (((cell_far (p := ⟨gb135, _, none⟩) NB126_135.out _).trans (((cell_far (p := ⟨gb135, _, none⟩) NB126_135.out _).trans (hHeld.2.2.2.2.2.1)))))), ((cell_far (p := ⟨gb135, _, none⟩) NB126_135.out _).trans (((cell_far (p := ⟨gb135, _, none⟩) NB126_135.out _).trans (((cell_far (p := ⟨gb135, _, none⟩) NB126_135.out _).trans (hHeld.2.2.2.2.2.2.1)))))), ((cell_far (p := ⟨gb135, _, none⟩) NB126_135.out _).trans (((cell_far (p := ⟨gb135, _, none⟩) NB126_135.out _).trans (((cell_far (p := ⟨gb135, _, none⟩) NB126_135.out _).trans (hHeld.2.2.2.2.2.2.2))))))⟩ (fun hHeld => ?_)
 clear hK K
 refine done_ (done_of HT_.out (by kernel_rfl)) ?_
 have hnb20 := NB134_126.out
 have hnc20 := NB126_134.out
 have hnb21 := NB134_127.out
 have hnc21 := NB127_134.out
 have hnb22 := NB134_135.out
 have hnc22 := NB135_134.out
 obtain ⟨hcz23_0, hcz23_1, hcz23_2⟩ := bc3 BK134.out
 obtain ⟨hfz23_0, hfz23_1, hfz23_2⟩ := bf3 BK134.out
 have hnb24 := NB135_126.out
 have hnc24 := NB126_135.out
 have hnb25 := NB135_127.out
 have hnc25 := NB127_135.out
 obtain ⟨hcz26_0, hcz26_1, hcz26_2⟩ := bc3 BK135.out
 obtain ⟨hfz26_0, hfz26_1, hfz26_2⟩ := bf3 BK135.out
 go_upto_if 14 with (first | ((with_reducible refine gate_callee (f := 45) rfl ?_); refine goesL_ (some 13) rfl rfl Try.func45 (by kernel_rfl) rfl #[.agg #[.bool t128, .int .i64 t129, .string t130], .agg #[.bool t131, .int .i64 t132, .string t133]] rfl (by (try simp only [List.map_toArray, List.map_cons, List.map_nil]); first | done | rfl | (simp only [List.length_drop, List.length_take]; rfl)) ?_; (with_reducible refine (kinds_Compare_c.calls t128 t129 t130 t131 t132 t133 t136 _ A4.out).mono ?_); rintro e w27 ⟨rfl, hb⟩; refine ⟨_, rfl, ?_⟩; have n0_ := Aside0.mk (blk_below (g := gb126) (o := .cells #[.bool a0_0, .bool a0_1, .bool a0_2, .int .i64 a0_3, .string a0_4, .bool a0_5, .int .i64 a0_6, .string a0_7] 41 (0, 0)) (by (iterate 3 (refine blk_far ?_ NB126_135.out _)); (iterate 3 (refine blk_far ?_ NB126_134.out _)); (with_reducible repeat (first | refine blk_drewN ?_ _ | refine blk_drew ?_ | refine blk_alloc ?_ _)); exact BK126.out) hb); have n1_ := Aside0.mk (blk_below (g := gb127) (o := .cells #[.bool false, .bool false, .bool false, .int .i64 0, .string (⟨#[]⟩ : ByteArray), .bool false, .int .i64 0, .string (⟨#[]⟩ : ByteArray)] 41 (0, 0)) (by (iterate 3 (refine blk_far ?_ NB127_135.out _)); (iterate 3 (refine blk_far ?_ NB127_134.out _)); (with_reducible repeat (first | refine blk_drewN ?_ _ | refine blk_drew ?_ | refine blk_alloc ?_ _)); exact BK127.out) hb); have n2_ := Aside0.mk (blk_below (g := gb134) (o := .cells #[.bool t128, .int .i64 t129, .string t130] 27 (0, 0)) (by (iterate 3 (refine blk_far ?_ NB134_135.out _)); refine blk_put (cs := #[.bool t128, .int .i64 t129, .string (⟨#[]⟩ : ByteArray)]) ?_ 2 _ rfl; refine blk_put (cs := #[.bool t128, .int .i64 0, .string (⟨#[]⟩ : ByteArray)]) ?_ 1 _ rfl; refine blk_put (cs := #[.bool false, .int .i64 0, .string (⟨#[]⟩ : ByteArray)]) ?_ 0 _ rfl; (with_reducible repeat (first | refine blk_drewN ?_ _ | refine blk_drew ?_ | refine blk_alloc ?_ _)); exact BK134.out) hb); have n3_ := Aside0.mk (blk_below (g := gb135) (o := .cells #[.bool t131, .int .i64 t132, .string t133] 27 (0, 0)) (by refine blk_put (cs := #[.bool t131, .int .i64 t132, .string (⟨#[]⟩ : ByteArray)]) ?_ 2 _ rfl; refine blk_put (cs := #[.bool t131, .int .i64 0, .string (⟨#[]⟩ : ByteArray)]) ?_ 1 _ rfl; refine blk_put (cs := #[.bool false, .int .i64 0, .string (⟨#[]⟩ : ByteArray)]) ?_ 0 _ rfl; (iterate 3 (refine blk_far ?_ NB135_134.out _)); (with_reducible repeat (first | refine blk_drewN ?_ _ | refine blk_drew ?_ | refine blk_alloc ?_ _)); exact BK135.out) hb); have n4_ := Aside0.mk (below_step (by with_reducible repeat first | exact HB.out | apply below_alloc | apply pw_below_drewN | apply below_drew1 | refine below_set ?_ GE126.out | refine below_set ?_ GE127.out | refine below_set ?_ GE134.out | refine below_set ?_ GE135.out) hb); clear BK126; clear BK127; clear BK134; clear BK135; clear HB; have BK126 := n0_; have BK127 := n1_; have BK134 := n2_; have BK135 := n3_; have HB := n4_; clear n0_ n1_ n2_ n3_ n4_; (try clear hb); (try clear hb2); (try clear hk); (try clear hi)))
 (try simp only [Act.put, List.setIfInBounds_toArray, List.set_cons_zero, List.set_cons_succ])
 go_cut [] (fun wc => ∃ (kq : Nat) (x135000_4 : Bool) (x135001_4 : Int) (x135002_4 : ByteArray) (x136000_4 : Bool) (x136001_4 : Int) (x136002_4 : ByteArray), Aside0 (zone_ordered.j0 kq x135000_4 x135001_4 x135002_4 x136000_4 x136001_4 x136002_4 = some (r1, r2, r3, r4, r5, r6, r7, r8)) ∧ Aside0 (kq ≤ k) ∧ Aside0 (wc.heap[gb126]? = some (.cells #[.bool a0_0, .bool a0_1, .bool a0_2, .int .i64 a0_3, .string a0_4, .bool a0_5, .int .i64 a0_6, .string a0_7] 41 (0, 0))) ∧ Aside0 (wc.heap[gb127]? = some (.cells #[.bool false, .bool false, .bool false, .int .i64 0, .string (⟨#[]⟩ : ByteArray), .bool false, .int .i64 0, .string (⟨#[]⟩ : ByteArray)] 41 (0, 0))) ∧ Aside0 (wc.heap[gb134]? = some (.cells #[.bool x135000_4, .int .i64 x135001_4, .string x135002_4] 27 (0, 0))) ∧ Aside0 (wc.heap[gb135]? = some (.cells #[.bool x136000_4, .int .i64 x136001_4, .string x136002_4] 27 (0, 0))) ∧ Aside0 (Below w.heap.size w wc))
 case first =>
  have H := HC5.out
  clear HC5
  by_cases c28 : t136 > 0
  ·rw [if_pos c28] at H
   have c28b0 : decide (0 < t136) = true := decide_eq_true c28
   clear c28
   (first | rw [c28b0] | (simp only [i64_w, i32_w]; rw [c28b0]) | skip)
   have H' := Aside0.mk H
   clear H
   have hnb29 := NB135_126.out
   have hnc29 := NB126_135.out
   have hnb30 := NB135_127.out
   have hnc30 := NB127_135.out
   have hnb31 := NB135_134.out
   have hnc31 := NB134_135.out
   obtain ⟨hcz32_0, hcz32_1, hcz32_2⟩ := bc3 BK135.out
   obtain ⟨hfz32_0, hfz32_1, hfz32_2⟩ := bf3 BK135.out
   have hnb33 := NB134_126.out
   have hnc33 := NB126_134.out
   have hnb34 := NB134_127.out
   have hnc34 := NB127_134.out
   obtain ⟨hcz35_0, hcz35_1, hcz35_2⟩ := bc3 BK134.out
   obtain ⟨hfz35_0, hfz35_1, hfz35_2⟩ := bf3 BK134.out
   go_wp2
   go_meet
   case rel => exact ⟨_, (t131), (t132), (t133), (t128), (t129), (t130), H', ⟨by first | omega | exact Nat.le_refl _⟩, ⟨by (iterate 3 (refine blk_far ?_ NB126_135.out _)); (iterate 3 (refine blk_far ?_ NB126_134.out _)); (with_reducible repeat (first | refine blk_drewN ?_ _ | refine blk_drew ?_ | refine blk_alloc ?_ _)); exact BK126.out⟩, ⟨by (iterate 3 (refine blk_far ?_ NB127_135.out _)); (iterate 3 (refine blk_far ?_ NB127_134.out _)); (with_reducible repeat (first | refine blk_drewN ?_ _ | refine blk_drew ?_ | refine blk_alloc ?_ _)); exact BK127.out⟩, ⟨by (iterate 3 (refine blk_far ?_ NB134_135.out _)); refine blk_put (cs := #[.bool t131, .int .i64 t132, .string t130]) ?_ 2 _ rfl; refine blk_put (cs := #[.bool t131, .int .i64 t129, .string t130]) ?_ 1 _ rfl; refine blk_put (cs := #[.bool t128, .int .i64 t129, .string t130]) ?_ 0 _ rfl; (with_reducible repeat (first | refine blk_drewN ?_ _ | refine blk_drew ?_ | refine blk_alloc ?_ _)); exact BK134.out⟩, ⟨by refine blk_put (cs := #[.bool t128, .int .i64 t129, .string t133]) ?_ 2 _ rfl; refine blk_put (cs := #[.bool t128, .int .i64 t132, .string t133]) ?_ 1 _ rfl; refine blk_put (cs := #[.bool t131, .int .i64 t132, .string t133]) ?_ 0 _ rfl; (iterate 3 (refine blk_far ?_ NB135_134.out _)); (with_reducible repeat (first | refine blk_drewN ?_ _ | refine blk_drew ?_ | refine blk_alloc ?_ _)); exact BK135.out⟩, ⟨by repeat (first | (with_reducible first | exact HB.out | apply below_alloc | apply pw_below_drewN | apply below_drew1 | refine below_set ?_ GE126.out | refine below_set ?_ GE127.out | refine below_set ?_ GE134.out | refine below_set ?_ GE135.out) | exact HB.out)⟩⟩
  ·rw [if_neg c28] at H
   have c28b0 : decide (0 < t136) = false := decide_eq_false c28
   clear c28
   (first | rw [c28b0] | (simp only [i64_w, i32_w]; rw [c28b0]) | skip)
   have H' := Aside0.mk H
   clear H
   go_wp2
   go_meet
   case rel => exact ⟨_, (t128), (t129), (t130), (t131), (t132), (t133), H', ⟨by first | omega | exact Nat.le_refl _⟩, ⟨by (with_reducible repeat (first | refine blk_drewN ?_ _ | refine blk_drew ?_ | refine blk_alloc ?_ _)); exact BK126.out⟩, ⟨by (with_reducible repeat (first | refine blk_drewN ?_ _ | refine blk_drew ?_ | refine blk_alloc ?_ _)); exact BK127.out⟩, ⟨by (with_reducible repeat (first | refine blk_drewN ?_ _ | refine blk_drew ?_ | refine blk_alloc ?_ _)); exact BK134.out⟩, ⟨by (with_reducible repeat (first | refine blk_drewN ?_ _ | refine blk_drew ?_ | refine blk_alloc ?_ _)); exact BK135.out⟩, ⟨by repeat (first | (with_reducible first | exact HB.out | apply below_alloc | apply pw_below_drewN | apply below_drew1 | refine below_set ?_ GE126.out | refine below_set ?_ GE127.out | refine below_set ?_ GE134.out | refine below_set ?_ GE135.out) | exact HB.out)⟩⟩
 case rest =>
  clear HC5
  try clear c2
  try clear p2
  try clear c3
  try clear c4
  try clear c20
  try clear c21
  try clear c22
  try clear c24
  try clear c25
  try clear c28
  try clear c28b0
  try clear c29
  try clear c30
  try clear c31
  try clear c33
  try clear c34
  try clear hcz23_0 hcz23_1 hcz23_2
  try clear hcz26_0 hcz26_1 hcz26_2
  try clear hcz32_0 hcz32_1 hcz32_2
  try clear hcz35_0 hcz35_1 hcz35_2
  try clear hfz23_0 hfz23_1 hfz23_2
  try clear hfz26_0 hfz26_1 hfz26_2
  try clear hfz32_0 hfz32_1 hfz32_2
  try clear hfz35_0 hfz35_1 hfz35_2
  obtain ⟨kq, x135000_4, x135001_4, x135002_4, x136000_4, x136001_4, x136002_4, HA, HJ4, BK126, BK127, BK134, BK135, HB⟩ := hcut
  cases kq with
  | zero => exact absurd HA.out (by simp [zone_ordered.j0])
  | succ kj4 =>
   have H := HA.out
   clear HA
   simp only [zone_ordered.j0] at H
   replace H := Option.bind_eq_some_iff.mp H
   obtain ⟨⟨t137, t138, t139, t140, t141, t142, t143, t144⟩, A360, H⟩ := H
   replace H : (some (t137, t138, t139, t140, t141, t142, t143, t144)) = some (r1, r2, r3, r4, r5, r6, r7, r8) := H
   have A36 := Aside0.mk A360
   clear A360
   simp only [Option.some.injEq, Prod.mk.injEq] at H
   obtain ⟨rfl, rfl, rfl, rfl, rfl, rfl, rfl, rfl⟩ := H
   have hnb37 := NB134_126.out
   have hnc37 := NB126_134.out
   have hnb38 := NB134_127.out
   have hnc38 := NB127_134.out
   have hnb39 := NB134_135.out
   have hnc39 := NB135_134.out
   obtain ⟨hcz40_0, hcz40_1, hcz40_2⟩ := bc3 BK134.out
   obtain ⟨hfz40_0, hfz40_1, hfz40_2⟩ := bf3 BK134.out
   have hnb41 := NB135_126.out
   have hnc41 := NB126_135.out
   have hnb42 := NB135_127.out
   have hnc42 := NB127_135.out
   obtain ⟨hcz43_0, hcz43_1, hcz43_2⟩ := bc3 BK135.out
   obtain ⟨hfz43_0, hfz43_1, hfz43_2⟩ := bf3 BK135.out
   go_wp2_with (first | ((with_reducible refine gate_callee (f := 46) rfl ?_); refine goesL_ (some 19) rfl rfl Try.func46 (by kernel_rfl) rfl #[.agg #[.bool x135000_4, .int .i64 x135001_4, .string x135002_4], .agg #[.bool x136000_4, .int .i64 x136001_4, .string x136002_4]] rfl (by (try simp only [List.map_toArray, List.map_cons, List.map_nil]); first | done | rfl | (simp only [List.length_drop, List.length_take]; rfl)) ?_; (with_reducible refine (zone_span_c.calls x135000_4 x135001_4 x135002_4 x136000_4 x136001_4 x136002_4 t137 t138 t139 t140 t141 t142 t143 t144 _ A36.out).mono ?_); rintro e w44 ⟨rfl, hb⟩; refine ⟨_, rfl, ?_⟩; have n0_ := Aside0.mk (blk_below (g := gb126) (o := .cells #[.bool a0_0, .bool a0_1, .bool a0_2, .int .i64 a0_3, .string a0_4, .bool a0_5, .int .i64 a0_6, .string a0_7] 41 (0, 0)) (by (with_reducible repeat (first | refine blk_drewN ?_ _ | refine blk_drew ?_ | refine blk_alloc ?_ _)); exact BK126.out) hb); have n1_ := Aside0.mk (blk_below (g := gb127) (o := .cells #[.bool false, .bool false, .bool false, .int .i64 0, .string (⟨#[]⟩ : ByteArray), .bool false, .int .i64 0, .string (⟨#[]⟩ : ByteArray)] 41 (0, 0)) (by (with_reducible repeat (first | refine blk_drewN ?_ _ | refine blk_drew ?_ | refine blk_alloc ?_ _)); exact BK127.out) hb); have n2_ := Aside0.mk (blk_below (g := gb134) (o := .cells #[.bool x135000_4, .int .i64 x135001_4, .string x135002_4] 27 (0, 0)) (by (with_reducible repeat (first | refine blk_drewN ?_ _ | refine blk_drew ?_ | refine blk_alloc ?_ _)); exact BK134.out) hb); have n3_ := Aside0.mk (blk_below (g := gb135) (o := .cells #[.bool x136000_4, .int .i64 x136001_4, .string x136002_4] 27 (0, 0)) (by (with_reducible repeat (first | refine blk_drewN ?_ _ | refine blk_drew ?_ | refine blk_alloc ?_ _)); exact BK135.out) hb); have n4_ := Aside0.mk (below_step (by with_reducible repeat first | exact HB.out | apply below_alloc | apply pw_below_drewN | apply below_drew1 | refine below_set ?_ GE126.out | refine below_set ?_ GE127.out | refine below_set ?_ GE134.out | refine below_set ?_ GE135.out) hb); clear BK126; clear BK127; clear BK134; clear BK135; clear HB; have BK126 := n0_; have BK127 := n1_; have BK134 := n2_; have BK135 := n3_; have HB := n4_; clear n0_ n1_ n2_ n3_ n4_; (try clear hb); (try clear hb2); (try clear hk); (try clear hi); have hnb45 := NB127_126.out; have hnc45 := NB126_127.out; obtain ⟨hcz46_0, hcz46_1, hcz46_2, hcz46_3, hcz46_4, hcz46_5, hcz46_6, hcz46_7⟩ := bc8 BK127.out; obtain ⟨hfz46_0, hfz46_1, hfz46_2, hfz46_3, hfz46_4, hfz46_5, hfz46_6, hfz46_7⟩ := bf8 BK127.out))
   refine bodyPost_ret (results_cell_row rfl _ _ gb127 41 #[.bool t137, .bool t138, .bool t139, .int .i64 t140, .string t141, .bool t142, .int .i64 t143, .string t144] (0, 0) _ rfl (by refine blk_put (cs := #[.bool t137, .bool t138, .bool t139, .int .i64 t140, .string t141, .bool t142, .int .i64 t143, .string (⟨#[]⟩ : ByteArray)]) ?_ 7 _ rfl; refine blk_put (cs := #[.bool t137, .bool t138, .bool t139, .int .i64 t140, .string t141, .bool t142, .int .i64 0, .string (⟨#[]⟩ : ByteArray)]) ?_ 6 _ rfl; refine blk_put (cs := #[.bool t137, .bool t138, .bool t139, .int .i64 t140, .string t141, .bool false, .int .i64 0, .string (⟨#[]⟩ : ByteArray)]) ?_ 5 _ rfl; refine blk_put (cs := #[.bool t137, .bool t138, .bool t139, .int .i64 t140, .string (⟨#[]⟩ : ByteArray), .bool false, .int .i64 0, .string (⟨#[]⟩ : ByteArray)]) ?_ 4 _ rfl; refine blk_put (cs := #[.bool t137, .bool t138, .bool t139, .int .i64 0, .string (⟨#[]⟩ : ByteArray), .bool false, .int .i64 0, .string (⟨#[]⟩ : ByteArray)]) ?_ 3 _ rfl; refine blk_put (cs := #[.bool t137, .bool t138, .bool false, .int .i64 0, .string (⟨#[]⟩ : ByteArray), .bool false, .int .i64 0, .string (⟨#[]⟩ : ByteArray)]) ?_ 2 _ rfl; refine blk_put (cs := #[.bool t137, .bool false, .bool false, .int .i64 0, .string (⟨#[]⟩ : ByteArray), .bool false, .int .i64 0, .string (⟨#[]⟩ : ByteArray)]) ?_ 1 _ rfl; refine blk_put (cs := #[.bool false, .bool false, .bool false, .int .i64 0, .string (⟨#[]⟩ : ByteArray), .bool false, .int .i64 0, .string (⟨#[]⟩ : ByteArray)]) ?_ 0 _ rfl; (with_reducible repeat (first | refine blk_drewN ?_ _ | refine blk_drew ?_ | refine blk_alloc ?_ _)); exact BK127.out) Try.underlying41 rfl (by kernel_rfl)) rfl ?_
   exact ⟨by first | rfl | (simp [errW_none, errW_some] <;> rfl) | (simp [*, errW_none, errW_some] <;> rfl), by repeat (first | (with_reducible first | exact HB.out | apply below_alloc | apply pw_below_drewN | apply below_drew1 | refine below_set ?_ GE126.out | refine below_set ?_ GE127.out | refine below_set ?_ GE134.out | refine below_set ?_ GE135.out) | exact HB.out)⟩
/-! ### zone_ordered_c: function 49 -/
--@import Derived.Test.YtnfliommpdjlkaaThy
def ordV (z : Zn) : Zn := if lessV (solidV z.hi) (solidV z.lo) then spanV z.hi z.lo else spanV z.lo z.hi
theorem zone_ordered.is (z : Zn) : zone_ordered.f 1 z.nu z.va z.lo.f0 z.lo.f1 z.lo.f2 z.hi.f0 z.hi.f1 z.hi.f2 = some (ordV z).tup := by
  simp only [zone_ordered.f, zone_solid.f, Option.bind_some, kinds_Compare_c.f, Thy.cmpV_gt, zone_ordered.j0, zone_span_c.f, ordV, lessV, solidV]
  split <;> simp only [spanV, solidV, Zn.tup, *, if_true, if_false, Bool.false_eq_true]
def zone_ordered_c.f (a0_0 : Bool) (a0_1 : Bool) (a0_2 : Bool) (a0_3 : Int) (a0_4 : ByteArray) (a0_5 : Bool) (a0_6 : Int) (a0_7 : ByteArray) : Option (Bool × Bool × Bool × Int × ByteArray × Bool × Int × ByteArray) := some (ordV ⟨a0_0, a0_1, ⟨a0_2, a0_3, a0_4⟩, ⟨a0_5, a0_6, a0_7⟩⟩).tup
theorem zone_ordered_c.calls (a0_0 : Bool) (a0_1 : Bool) (a0_2 : Bool) (a0_3 : Int) (a0_4 : ByteArray) (a0_5 : Bool) (a0_6 : Int) (a0_7 : ByteArray) (r1 : Bool) (r2 : Bool) (r3 : Bool) (r4 : Int) (r5 : ByteArray) (r6 : Bool) (r7 : Int) (r8 : ByteArray) (w : World) (h : zone_ordered_c.f a0_0 a0_1 a0_2 a0_3 a0_4 a0_5 a0_6 a0_7 = some (r1, r2, r3, r4, r5, r6, r7, r8)) :
    Calls Try.prog 49 #[.agg #[.bool a0_0, .bool a0_1, .bool a0_2, .int .i64 a0_3, .string a0_4, .bool a0_5, .int .i64 a0_6, .string a0_7]] w fun e w' => e = .returned (.agg #[.bool r1, .bool r2, .bool r3, .int .i64 r4, .string r5, .bool r6, .int .i64 r7, .string r8]) ∧ Below w.heap.size w w' :=
  zone_ordered.calls 1 a0_0 a0_1 a0_2 a0_3 a0_4 a0_5 a0_6 a0_7 r1 r2 r3 r4 r5 r6 r7 r8 w ((zone_ordered.is ⟨a0_0, a0_1, ⟨a0_2, a0_3, a0_4⟩, ⟨a0_5, a0_6, a0_7⟩⟩).trans h)


end Go.Proofs.Ytnfliommpdjlkaa.Pr
