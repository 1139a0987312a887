-- printed by xprint.py (this seat's own program, over the kit's print.py); not trusted: Lean checks it
import Derived.Test.YtnfliommpdjlkaaPr0
import Derived.Test.YtnfliommpdjlkaaPrf46
import Derived.Test.YtnfliommpdjlkaaPrf47
import Derived.Test.YtnfliommpdjlkaaThy
namespace Go.Proofs.Ytnfliommpdjlkaa.Pr
open Go.RowKit Go.Proofs.YtnfliommpdjlkaaW.PrintWords Go.Proofs.YtnfliommpdjlkaaW.PrintLast Go.Proofs.YtnfliommpdjlkaaW.PrintMore
attribute [local go_sem] max2_int min2_int max_two min_two max_three min_three max_four min_four   -- for this text's walks alone
set_option linter.unusedVariables false
set_option linter.unusedSimpArgs false

/-! ### tithebarnref11_Of: function 23 -/
def tithebarnref11_Of.l0 : Nat → List (S27) → Int → Bool → Bool → Bool → Int → ByteArray → Bool → Int → ByteArray → Option (Bool × Bool × Bool × Int × ByteArray × Bool × Int × ByteArray)
 | 0, _, _, _, _, _, _, _, _, _, _ => none
 | k + 1, x0, x4, x214000, x214001, x214002, x214003, x214004, x214005, x214006, x214007 => if x4 < (x0.length : Int) then (if 0 ≤ x4 then ((tithebarnref11_add_c.f x214000 x214001 x214002 x214003 x214004 x214005 x214006 x214007 ((rd_T27 x0 x4).f0) ((rd_T27 x0 x4).f1) ((rd_T27 x0 x4).f2)).bind fun bt215 => (tithebarnref11_Of.l0 k x0 (wrap64 (x4 + 1)) bt215.1 bt215.2.1 bt215.2.2.1 bt215.2.2.2.1 bt215.2.2.2.2.1 bt215.2.2.2.2.2.1 bt215.2.2.2.2.2.2.1 bt215.2.2.2.2.2.2.2)) else (none)) else (some (x214000, x214001, x214002, x214003, x214004, x214005, x214006, x214007))
def tithebarnref11_Of.f (k : Nat) (l0 : List (S27)) : Option (Bool × Bool × Bool × Int × ByteArray × Bool × Int × ByteArray) := tithebarnref11_Of.l0 k l0 0 false false false 0 (⟨#[]⟩ : ByteArray) false 0 (⟨#[]⟩ : ByteArray)
theorem tithebarnref11_Of.mono_l : ∀ k, (∀ y0 y1 y2 y3 y4 y5 y6 y7 y8 y9, LeO (tithebarnref11_Of.l0 k y0 y1 y2 y3 y4 y5 y6 y7 y8 y9) (tithebarnref11_Of.l0 (k + 1) y0 y1 y2 y3 y4 y5 y6 y7 y8 y9))
 | 0 => fun _ _ _ _ _ _ _ _ _ _ r h => by simp [tithebarnref11_Of.l0] at h
 | k + 1 => by
  have ih0 := tithebarnref11_Of.mono_l k
  ·intro y0 y1 y2 y3 y4 y5 y6 y7 y8 y9
   unfold tithebarnref11_Of.l0
   repeat' first
   | (with_reducible exact ih0 _ _ _ _ _ _ _ _ _ _)
   | (with_reducible exact LeO.refl _)
   | (with_reducible exact LeO.none _)
   | (with_reducible refine LeO.ite ?_ ?_)
   | (with_reducible refine LeO.bind ?_ (fun _ => ?_))
   | exact ih0 _ _ _ _ _ _ _ _ _ _
   | exact LeO.none _
   | refine LeO.ite ?_ ?_
   | refine LeO.bind ?_ (fun _ => ?_)
theorem tithebarnref11_Of.mono : ∀ a0 k, LeO (tithebarnref11_Of.f k a0) (tithebarnref11_Of.f (k + 1) a0) := by
 intro a0 k
 have ih0 := tithebarnref11_Of.mono_l k
 unfold tithebarnref11_Of.f
 repeat' first
   | (with_reducible exact ih0 _ _ _ _ _ _ _ _ _ _)
   | (with_reducible exact LeO.refl _)
   | (with_reducible exact LeO.none _)
   | (with_reducible refine LeO.ite ?_ ?_)
   | (with_reducible refine LeO.bind ?_ (fun _ => ?_))
   | exact ih0 _ _ _ _ _ _ _ _ _ _
   | exact LeO.none _
   | refine LeO.ite ?_ ?_
   | refine LeO.bind ?_ (fun _ => ?_)
set_option maxHeartbeats 8000000 in
set_option maxRecDepth 100000 in
theorem tithebarnref11_Of.calls (k : Nat) (A0 : Option Addr) (c0 : Nat) (l0 : List (S27)) (r1 : Bool) (r2 : Bool) (r3 : Bool) (r4 : Int) (r5 : ByteArray) (r6 : Bool) (r7 : Int) (r8 : ByteArray) (w : World) (hr0 : Kd.C k27 w A0 l0.length l0) (hc0 : l0.length ≤ c0) (h : tithebarnref11_Of.f k l0 = some (r1, r2, r3, r4, r5, r6, r7, r8)) :
  Calls Try.prog 23 #[.slice A0 l0.length c0] w fun e w' => e = .returned (.agg #[.bool r1, .bool r2, .bool r3, .int .i64 r4, .string r5, .bool r6, .int .i64 r7, .string r8]) ∧ Below w.heap.size w w' := by
 have hu41 := Try.underlying41
 have hu27 := Try.underlying27
 have HR0 := Aside0.mk hr0
 have HC0 := Aside0.mk hc0
 clear hr0 hc0
 have HB := Aside0.mk (Below.refl w.heap.size w)
 have H : (tithebarnref11_Of.l0 k l0 0 false false false 0 (⟨#[]⟩ : ByteArray) false 0 (⟨#[]⟩ : ByteArray)) = some (r1, r2, r3, r4, r5, r6, r7, r8) := h
 clear h
 have H' := Aside0.mk H
 clear H
 go_enter Try.func23, Try.ntmps23
 go_wp2_with (first | ((with_reducible refine gate_dst (N := 2) rfl ?_); refine box_event ?hg (N := 2) ?hd (cs := #[.bool false, .bool false, .bool false, .int .i64 0, .string (⟨#[]⟩ : ByteArray), .bool false, .int .i64 0, .string (⟨#[]⟩ : ByteArray)]) (t := 41) ?hr ?_; (case hd => rfl); (case hg => rfl); (case hr => first | (go_simp; done) | (go_simp; rfl)); intro gb212 hg w2 hbox hb; have n0_ := Aside0.mk (below_step (by repeat (first | (with_reducible first | exact HB.out | apply below_alloc | apply pw_below_drewN | apply below_drew1) | exact HB.out)) hb); have n1_ := Aside0.mk (hbox); have n2_ := Aside0.mk ((by rw [hg]; exact (below_size (by repeat (first | (with_reducible first | exact HB.out | apply below_alloc | apply pw_below_drewN | apply below_drew1) | exact HB.out))) : w.heap.size ≤ gb212)); have n3_ := Aside0.mk ((by rw [hg]; exact (below_size (by repeat (first | (with_reducible first | exact HB.out | apply below_alloc | apply pw_below_drewN | apply below_drew1) | exact HB.out))) : w.heap.size ≤ gb212)); clear HB; have HB := n0_; have BK212 := n1_; have GW212 := n2_; have GE212 := n3_; clear n0_ n1_ n2_ n3_; clear hb hbox hg) | ((with_reducible refine gate_dst (N := 3) rfl ?_); refine box_event ?hg (N := 3) ?hd (cs := #[.bool false, .bool false, .bool false, .int .i64 0, .string (⟨#[]⟩ : ByteArray), .bool false, .int .i64 0, .string (⟨#[]⟩ : ByteArray)]) (t := 41) ?hr ?_; (case hd => rfl); (case hg => rfl); (case hr => first | (go_simp; done) | (go_simp; rfl)); intro gb213 hg w3 hbox hb; have n0_ := Aside0.mk (blk_below (g := gb212) (o := .cells #[.bool false, .bool false, .bool false, .int .i64 0, .string (⟨#[]⟩ : ByteArray), .bool false, .int .i64 0, .string (⟨#[]⟩ : ByteArray)] 41 (0, 0)) (by (with_reducible repeat (first | refine blk_drewN ?_ _ | refine blk_drew ?_ | refine blk_alloc ?_ _)); exact BK212.out) hb); have n1_ := Aside0.mk (below_step (by repeat (first | (with_reducible first | exact HB.out | apply below_alloc | apply pw_below_drewN | apply below_drew1 | refine below_set ?_ GE212.out) | exact HB.out)) hb); have n2_ := Aside0.mk (hbox); have n3_ := Aside0.mk ((by rw [hg]; exact (below_size (by repeat (first | (with_reducible first | exact HB.out | apply below_alloc | apply pw_below_drewN | apply below_drew1 | refine below_set ?_ GE212.out) | exact HB.out))) : w.heap.size ≤ gb213)); have n4_ := Aside0.mk ((by rw [hg]; exact (below_size (by repeat (first | (with_reducible first | exact HB.out | apply below_alloc | apply pw_below_drewN | apply below_drew1 | refine below_set ?_ GE212.out) | exact HB.out))) : w.heap.size ≤ gb213)); have n5_ := Aside0.mk ((by rw [hg]; exact Nat.ne_of_lt (blk_lt (g := gb212) (o := .cells #[.bool false, .bool false, .bool false, .int .i64 0, .string (⟨#[]⟩ : ByteArray), .bool false, .int .i64 0, .string (⟨#[]⟩ : ByteArray)] 41 (0, 0)) (by (with_reducible repeat (first | refine blk_drewN ?_ _ | refine blk_drew ?_ | refine blk_alloc ?_ _)); exact BK212.out)) : gb212 ≠ gb213)); have n6_ := Aside0.mk ((by rw [hg]; exact Nat.ne_of_gt (blk_lt (g := gb212) (o := .cells #[.bool false, .bool false, .bool false, .int .i64 0, .string (⟨#[]⟩ : ByteArray), .bool false, .int .i64 0, .string (⟨#[]⟩ : ByteArray)] 41 (0, 0)) (by (with_reducible repeat (first | refine blk_drewN ?_ _ | refine blk_drew ?_ | refine blk_alloc ?_ _)); exact BK212.out)) : gb213 ≠ gb212)); clear BK212; clear HB; have BK212 := n0_; have HB := n1_; have BK213 := n2_; have GW213 := n3_; have GE213 := n4_; have NB212_213 := n5_; have NB213_212 := n6_; clear n0_ n1_ n2_ n3_ n4_ n5_ n6_; clear hb hbox hg))
 go_loopg [4] k (fun kq v4 w' => ∃ (x4_1 : Int) (x214000_1 : Bool) (x214001_1 : Bool) (x214002_1 : Bool) (x214003_1 : Int) (x214004_1 : ByteArray) (x214005_1 : Bool) (x214006_1 : Int) (x214007_1 : ByteArray), v4 = .int .i64 x4_1 ∧ Aside0 (tithebarnref11_Of.l0 kq l0 x4_1 x214000_1 x214001_1 x214002_1 x214003_1 x214004_1 x214005_1 x214006_1 x214007_1 = some (r1, r2, r3, r4, r5, r6, r7, r8)) ∧ Aside0 (kq ≤ k) ∧ Aside0 (w'.heap[gb212]? = some (.cells #[.bool false, .bool false, .bool false, .int .i64 0, .string (⟨#[]⟩ : ByteArray), .bool false, .int .i64 0, .string (⟨#[]⟩ : ByteArray)] 41 (0, 0))) ∧ Aside0 (w'.heap[gb213]? = some (.cells #[.bool x214000_1, .bool x214001_1, .bool x214002_1, .int .i64 x214003_1, .string x214004_1, .bool x214005_1, .int .i64 x214006_1, .string x214007_1] 41 (0, 0))) ∧ Aside0 (Below w.heap.size w w'))
 case atStart => exact ⟨(0), (false), (false), (false), (0), ((⟨#[]⟩ : ByteArray)), (false), (0), ((⟨#[]⟩ : ByteArray)), (by first | rfl | (simp; done) | (simp [*]; done)), H', ⟨Nat.le_refl _⟩, ⟨by (with_reducible repeat (first | refine blk_drewN ?_ _ | refine blk_drew ?_ | refine blk_alloc ?_ _)); exact BK212.out⟩, ⟨by (with_reducible repeat (first | refine blk_drewN ?_ _ | refine blk_drew ?_ | refine blk_alloc ?_ _)); exact BK213.out⟩, ⟨by repeat (first | (with_reducible first | exact HB.out | apply below_alloc | apply pw_below_drewN | apply below_drew1 | refine below_set ?_ GE212.out | refine below_set ?_ GE213.out) | exact HB.out)⟩⟩
 case round =>
  clear H'
  try clear c2
  try clear p2
  obtain ⟨x4_1, x214000_1, x214001_1, x214002_1, x214003_1, x214004_1, x214005_1, x214006_1, x214007_1, rfl, HA, HK1, BK212, BK213, HB⟩ := hrel
  cases gk with
  | zero => exact absurd HA.out (by simp [tithebarnref11_Of.l0])
  | succ k1 =>
   have H := HA.out
   clear HA
   simp only [tithebarnref11_Of.l0] at H
   by_cases c4 : x4_1 < (l0.length : Int)
   ·rw [if_pos c4] at H
    have c4b0 : decide (x4_1 < (l0.length : Int)) = true := decide_eq_true c4
    clear c4
    by_cases c5 : 0 ≤ x4_1
    ·rw [if_pos c5] at H
     have c5b0 : decide (0 ≤ x4_1) = true := decide_eq_true c5
     clear c5
     replace H := Option.bind_eq_some_iff.mp H
     obtain ⟨⟨t215, t216, t217, t218, t219, t220, t221, t222⟩, A60, H⟩ := H
     replace H : (tithebarnref11_Of.l0 k1 l0 (wrap64 (x4_1 + 1)) t215 t216 t217 t218 t219 t220 t221 t222) = some (r1, r2, r3, r4, r5, r6, r7, r8) := H
     have A6 := Aside0.mk A60
     clear A60
     have H' := Aside0.mk H
     clear H
     try go_wp2
     have n0_ := Aside0.mk (blk_drew BK212.out)
     have n1_ := Aside0.mk (blk_drew BK213.out)
     have n2_ := Aside0.mk (below_drew1 HB.out)
     clear BK212
     clear BK213
     clear HB
     have BK212 := n0_
     have BK213 := n1_
     have HB := n2_
     clear n0_ n1_ n2_
     have p214 : 0 ≤ (x4_1 : Int) := of_decide_eq_true (by first | (with_reducible assumption) | assumption)
     have q214 : x4_1 < (l0.length : Int) := of_decide_eq_true (by first | (with_reducible assumption) | assumption)
     obtain ⟨ad214, e214, hx214_0, hx214_1, hx214_2⟩ := at_T27 HR0.out x4_1 p214 q214
     have hw214_2 := hx214_2
     have hw214_1 := hx214_1
     have hw214_0 := hx214_0
     cases e214
     replace hx214_0 := (HB.out.cell (World.block_lt_of_cell? w _ hx214_0)).trans hx214_0
     replace hx214_1 := (HB.out.cell (World.block_lt_of_cell? w _ hx214_1)).trans hx214_1
     replace hx214_2 := (HB.out.cell (World.block_lt_of_cell? w _ hx214_2)).trans hx214_2
     replace p214 := eq_true p214
     replace q214 := eq_true q214
     refine start_ (n := 7) (S := fun w' => w'.cell? ⟨gb213, 0, none⟩ = some (.bool x214000_1) ∧ w'.cell? ⟨gb213, 1, none⟩ = some (.bool x214001_1) ∧ w'.cell? ⟨gb213, 2, none⟩ = some (.bool x214002_1) ∧ w'.cell? ⟨gb213, 3, none⟩ = some (.int .i64 x214003_1) ∧ w'.cell? ⟨gb213, 4, none⟩ = some (.string x214004_1) ∧ w'.cell? ⟨gb213, 5, none⟩ = some (.bool x214005_1) ∧ w'.cell? ⟨gb213, 6, none⟩ = some (.int .i64 x214006_1) ∧ w'.cell? ⟨gb213, 7, none⟩ = some (.string x214007_1) ∧ w'.cell? (ad214.add ((x4_1).toNat * 3)) = some (.bool ((rd_T27 l0 x4_1).f0)) ∧ w'.cell? ⟨(ad214.add ((x4_1).toNat * 3)).block, (ad214.add ((x4_1).toNat * 3)).off + 1, none⟩ = some (.int .i64 ((rd_T27 l0 x4_1).f1)) ∧ w'.cell? ⟨(ad214.add ((x4_1).toNat * 3)).block, (ad214.add ((x4_1).toNat * 3)).off + 2, none⟩ = some (.string ((rd_T27 l0 x4_1).f2))) (ds := [6]) #[false, false, false, false, false, false, false] (by kernel_rfl) rfl rfl ⟨(blk_cell BK213.out 0).trans rfl, (blk_cell BK213.out 1).trans rfl, (blk_cell BK213.out 2).trans rfl, (blk_cell BK213.out 3).trans rfl, (blk_cell BK213.out 4).trans rfl, (blk_cell BK213.out 5).trans rfl, (blk_cell BK213.out 6).trans rfl, (blk_cell BK213.out 7).trans rfl, ((HB.out.cell (World.block_lt_of_cell? w _ hw214_0)).trans hw214_0), ((HB.out.cell (World.block_lt_of_cell? w _ hw214_1)).trans hw214_1), ((HB.out.cell (World.block_lt_of_cell? w _ hw214_2)).trans hw214_2)⟩ (fun hHeld => ?_)
     generalize wr.drew = w7 at BK212 BK213 HB hx214_0 hx214_1 hx214_2 hHeld ⊢
     refine pure_ (i := 1) (N := some 12) (v := ?_) (a' := ?_) #[false, true, false, false, false, false, false] rfl rfl (by kernel_rfl) (fun _ _ _ h => h) (Or.inl ⟨by rfl, ?_⟩) ?_ ?_
     rotate_left
     ·intro w'
      go_simp
      with_reducible rfl
     rotate_left
     ·simp only [Act.put, List.setIfInBounds_toArray, List.set_cons_zero, List.set_cons_succ, i64_w, i32_w]
      rfl
     refine pure_ (i := 2) (N := some 13) (v := ?_) (a' := ?_) #[false, true, true, false, false, false, false] rfl rfl (by kernel_rfl) (fun _ _ _ h => h) (Or.inl ⟨by rfl, ?_⟩) ?_ ?_
     rotate_left
     ·intro w'
      go_simp
      with_reducible rfl
     rotate_left
     ·simp only [Act.put, List.setIfInBounds_toArray, List.set_cons_zero, List.set_cons_succ, i64_w, i32_w]
      rfl
     refine pure_ (i := 3) (N := some 14) (v := ?_) (a' := ?_) #[false, true, true, true, false, false, false] rfl rfl (by kernel_rfl) (fun _ _ _ h => h) (Or.inl ⟨by rfl, ?_⟩) ?_ ?_
     rotate_left
     ·intro w'
      go_simp
      with_reducible rfl
     rotate_left
     ·simp only [Act.put, List.setIfInBounds_toArray, List.set_cons_zero, List.set_cons_succ, i64_w, i32_w]
      rfl
     refine take_ (i := 0) (N := some 11) (v := ?_) (a' := ?_) #[true, true, true, true, false, false, false] rfl rfl (by kernel_rfl) (fun _ _ _ h => h) (Or.inl ⟨by rfl, ?_⟩) hHeld ?_ ?_
     rotate_left
     ·rintro w' ⟨s0, s1, s2, s3, s4, s5, s6, s7, s8, s9, s10⟩
      go_simp
      with_reducible rfl
     rotate_left
     ·simp only [Act.put, List.setIfInBounds_toArray, List.set_cons_zero, List.set_cons_succ, i64_w, i32_w]
      rfl
     refine take_ (i := 4) (N := some 15) (v := ?_) (a' := ?_) #[true, true, true, true, true, false, false] rfl rfl (by kernel_rfl) (fun _ _ _ h => h) (Or.inl ⟨by rfl, ?_⟩) hHeld ?_ ?_
     rotate_left
     ·rintro w' ⟨s0, s1, s2, s3, s4, s5, s6, s7, s8, s9, s10⟩
      go_simp
      with_reducible rfl
     rotate_left
     ·simp only [Act.put, List.setIfInBounds_toArray, List.set_cons_zero, List.set_cons_succ, i64_w, i32_w]
      rfl
     refine one_ (i := 5) (N := some 16) #[true, true, true, true, true, true, false] rfl rfl (by kernel_rfl) (by decide) (fun K hK => ?_)
     refine goes_ Try.func47 (by kernel_rfl) rfl #[.agg #[.bool x214000_1, .bool x214001_1, .bool x214002_1, .int .i64 x214003_1, .string x214004_1, .bool x214005_1, .int .i64 x214006_1, .string x214007_1], .agg #[.bool ((rd_T27 l0 x4_1).f0), .int .i64 ((rd_T27 l0 x4_1).f1), .string ((rd_T27 l0 x4_1).f2)]] (by rfl) rfl rfl (by (try simp only [List.map_toArray, List.map_cons, List.map_nil]); first | done | rfl | (simp only [List.length_drop, List.length_take]; rfl)) ?_
     with_reducible refine (tithebarnref11_add_c.calls x214000_1 x214001_1 x214002_1 x214003_1 x214004_1 x214005_1 x214006_1 x214007_1 ((rd_T27 l0 x4_1).f0) ((rd_T27 l0 x4_1).f1) ((rd_T27 l0 x4_1).f2) t215 t216 t217 t218 t219 t220 t221 t222 _ A6.out).mono ?_
     rintro e w8 ⟨rfl, hb⟩
     refine ⟨_, rfl, ?_⟩
     have n0_ := Aside0.mk (blk_below (g := gb212) (o := .cells #[.bool false, .bool false, .bool false, .int .i64 0, .string (⟨#[]⟩ : ByteArray), .bool false, .int .i64 0, .string (⟨#[]⟩ : ByteArray)] 41 (0, 0)) (by (with_reducible repeat (first | refine blk_drewN ?_ _ | refine blk_drew ?_ | refine blk_alloc ?_ _)); exact BK212.out) hb)
     have n1_ := Aside0.mk (blk_below (g := gb213) (o := .cells #[.bool x214000_1, .bool x214001_1, .bool x214002_1, .int .i64 x214003_1, .string x214004_1, .bool x214005_1, .int .i64 x214006_1, .string x214007_1] 41 (0, 0)) (by (with_reducible repeat (first | refine blk_drewN ?_ _ | refine blk_drew ?_ | refine blk_alloc ?_ _)); exact BK213.out) hb)
     have n2_ := Aside0.mk (below_step (by repeat (first | (with_reducible first | exact HB.out | apply below_alloc | apply pw_below_drewN | apply below_drew1 | refine below_set ?_ GE212.out | refine below_set ?_ GE213.out) | exact HB.out)) hb)
     clear BK212
     clear BK213
     clear HB
     have BK212 := n0_
     have BK213 := n1_
     have HB := n2_
     clear n0_ n1_ n2_
     (try clear hb)
     (try clear hb2)
     (try clear hk)
     (try clear hi)
     refine hK.out _ _ ⟨(blk_cell BK213.out 0).trans rfl, (blk_cell BK213.out 1).trans rfl, (blk_cell BK213.out 2).trans rfl, (blk_cell BK213.out 3).trans rfl, (blk_cell BK213.out 4).trans rfl, (blk_cell BK213.out 5).trans rfl, (blk_cell BK213.out 6).trans rfl, (blk_cell BK213.out 7).trans rfl, ((HB.out.cell (World.block_lt_of_cell? w _ hw214_0)).trans hw214_0), ((HB.out.cell (World.block_lt_of_cell? w _ hw214_1)).trans hw214_1), ((HB.out.cell (World.block_lt_of_cell? w _ hw214_2)).trans hw214_2)⟩ (fun hHeld => ?_)
     clear hK K
     refine norm_ (a' := ?_) ?_ ?_
     rotate_left
     ·show Act.put _ (some 16) _ = _
      simp only [Act.put, List.setIfInBounds_toArray, List.set_cons_zero, List.set_cons_succ, i64_w, i32_w]
      rfl
     refine last_ (i := 6) (N := none) #[true, true, true, true, true, true, true] rfl rfl (by kernel_rfl) (by decide) (fun K hK => ?_)
     have hs9 : w8.cell? ⟨gb213, 0, none⟩ = some (.bool x214000_1) := (blk_cell BK213.out 0).trans rfl
     have hfs9 := blk_frozen BK213.out 0
     have hns9_0 := NB212_213.out
     have hms9_0 := NB213_212.out
     have hs10 : w8.cell? ⟨gb213, 1, none⟩ = some (.bool x214001_1) := (blk_cell BK213.out 1).trans rfl
     have hfs10 := blk_frozen BK213.out 1
     have hns10_0 := NB212_213.out
     have hms10_0 := NB213_212.out
     have hs11 : w8.cell? ⟨gb213, 2, none⟩ = some (.bool x214002_1) := (blk_cell BK213.out 2).trans rfl
     have hfs11 := blk_frozen BK213.out 2
     have hns11_0 := NB212_213.out
     have hms11_0 := NB213_212.out
     have hs12 : w8.cell? ⟨gb213, 3, none⟩ = some (.int .i64 x214003_1) := (blk_cell BK213.out 3).trans rfl
     have hfs12 := blk_frozen BK213.out 3
     have hns12_0 := NB212_213.out
     have hms12_0 := NB213_212.out
     have hs13 : w8.cell? ⟨gb213, 4, none⟩ = some (.string x214004_1) := (blk_cell BK213.out 4).trans rfl
     have hfs13 := blk_frozen BK213.out 4
     have hns13_0 := NB212_213.out
     have hms13_0 := NB213_212.out
     have hs14 : w8.cell? ⟨gb213, 5, none⟩ = some (.bool x214005_1) := (blk_cell BK213.out 5).trans rfl
     have hfs14 := blk_frozen BK213.out 5
     have hns14_0 := NB212_213.out
     have hms14_0 := NB213_212.out
     have hs15 : w8.cell? ⟨gb213, 6, none⟩ = some (.int .i64 x214006_1) := (blk_cell BK213.out 6).trans rfl
     have hfs15 := blk_frozen BK213.out 6
     have hns15_0 := NB212_213.out
     have hms15_0 := NB213_212.out
     have hs16 : w8.cell? ⟨gb213, 7, none⟩ = some (.string x214007_1) := (blk_cell BK213.out 7).trans rfl
     have hfs16 := blk_frozen BK213.out 7
     have hns16_0 := NB212_213.out
     have hms16_0 := NB213_212.out
     refine skip_ (w1 := ?_) (by rfl) rfl ?_ ?_
     rotate_left
     ·go_simp
      rfl
     refine hK.out _ _ ?_
     clear hK K
     refine done_ (by kernel_rfl) ?_
     try go_wp2
     go_roundg k1
     case measure => have := HK1.out; omega
     case rel => exact ⟨(wrap64 (x4_1 + 1)), (t215), (t216), (t217), (t218), (t219), (t220), (t221), (t222), (by first | rfl | (simp; done) | (simp [*]; done)), H', ⟨by have := HK1.out; omega⟩, ⟨by (with_reducible repeat (first | refine blk_drewN ?_ _ | refine blk_drew ?_ | refine blk_alloc ?_ _)); refine blk_far ?_ NB212_213.out _; (with_reducible repeat (first | refine blk_drewN ?_ _ | refine blk_drew ?_ | refine blk_alloc ?_ _)); refine blk_far ?_ NB212_213.out _; (with_reducible repeat (first | refine blk_drewN ?_ _ | refine blk_drew ?_ | refine blk_alloc ?_ _)); refine blk_far ?_ NB212_213.out _; (with_reducible repeat (first | refine blk_drewN ?_ _ | refine blk_drew ?_ | refine blk_alloc ?_ _)); refine blk_far ?_ NB212_213.out _; (with_reducible repeat (first | refine blk_drewN ?_ _ | refine blk_drew ?_ | refine blk_alloc ?_ _)); refine blk_far ?_ NB212_213.out _; (with_reducible repeat (first | refine blk_drewN ?_ _ | refine blk_drew ?_ | refine blk_alloc ?_ _)); refine blk_far ?_ NB212_213.out _; (with_reducible repeat (first | refine blk_drewN ?_ _ | refine blk_drew ?_ | refine blk_alloc ?_ _)); refine blk_far ?_ NB212_213.out _; (with_reducible repeat (first | refine blk_drewN ?_ _ | refine blk_drew ?_ | refine blk_alloc ?_ _)); refine blk_far ?_ NB212_213.out _; (with_reducible repeat (first | refine blk_drewN ?_ _ | refine blk_drew ?_ | refine blk_alloc ?_ _)); exact BK212.out⟩, ⟨by (with_reducible repeat (first | refine blk_drewN ?_ _ | refine blk_drew ?_ | refine blk_alloc ?_ _)); refine blk_put (cs := #[.bool t215, .bool t216, .bool t217, .int .i64 t218, .string t219, .bool t220, .int .i64 t221, .string x214007_1]) ?_ 7 _ rfl; (with_reducible repeat (first | refine blk_drewN ?_ _ | refine blk_drew ?_ | refine blk_alloc ?_ _)); refine blk_put (cs := #[.bool t215, .bool t216, .bool t217, .int .i64 t218, .string t219, .bool t220, .int .i64 x214006_1, .string x214007_1]) ?_ 6 _ rfl; (with_reducible repeat (first | refine blk_drewN ?_ _ | refine blk_drew ?_ | refine blk_alloc ?_ _)); refine blk_put (cs := #[.bool t215, .bool t216, .bool t217, .int .i64 t218, .string t219, .bool x214005_1, .int .i64 x214006_1, .string x214007_1]) ?_ 5 _ rfl; (with_reducible repeat (first | refine blk_drewN ?_ _ | refine blk_drew ?_ | refine blk_alloc ?_ _)); refine blk_put (cs := #[.bool t215, .bool t216, .bool t217, .int .i64 t218, .string x214004_1, .bool x214005_1, .int .i64 x214006_1, .string x214007_1]) ?_ 4 _ rfl; (with_reducible repeat (first | refine blk_drewN ?_ _ | refine blk_drew ?_ | refine blk_alloc ?_ _)); refine blk_put (cs := #[.bool t215, .bool t216, .bool t217, .int .i64 x214003_1, .string x214004_1, .bool x214005_1, .int .i64 x214006_1, .string x214007_1]) ?_ 3 _ rfl; (with_reducible repeat (first | refine blk_drewN ?_ _ | refine blk_drew ?_ | refine blk_alloc ?_ _)); refine blk_put (cs := #[.bool t215, .bool t216, .bool x214002_1, .int .i64 x214003_1, .string x214004_1, .bool x214005_1, .int .i64 x214006_1, .string x214007_1]) ?_ 2 _ rfl; (with_reducible repeat (first | refine blk_drewN ?_ _ | refine blk_drew ?_ | refine blk_alloc ?_ _)); refine blk_put (cs := #[.bool t215, .bool x214001_1, .bool x214002_1, .int .i64 x214003_1, .string x214004_1, .bool x214005_1, .int .i64 x214006_1, .string x214007_1]) ?_ 1 _ rfl; (with_reducible repeat (first | refine blk_drewN ?_ _ | refine blk_drew ?_ | refine blk_alloc ?_ _)); refine blk_put (cs := #[.bool x214000_1, .bool x214001_1, .bool x214002_1, .int .i64 x214003_1, .string x214004_1, .bool x214005_1, .int .i64 x214006_1, .string x214007_1]) ?_ 0 _ rfl; (with_reducible repeat (first | refine blk_drewN ?_ _ | refine blk_drew ?_ | refine blk_alloc ?_ _)); exact BK213.out⟩, ⟨by repeat (first | (with_reducible first | exact HB.out | apply below_alloc | apply pw_below_drewN | apply below_drew1 | refine below_set ?_ GE212.out | refine below_set ?_ GE213.out) | exact HB.out)⟩⟩
    ·rw [if_neg c5] at H
     exact absurd H (by simp)
   ·rw [if_neg c4] at H
    have c4b0 : decide (x4_1 < (l0.length : Int)) = false := decide_eq_false c4
    clear c4
    simp only [Option.some.injEq, Prod.mk.injEq] at H
    obtain ⟨rfl, rfl, rfl, rfl, rfl, rfl, rfl, rfl⟩ := H
    have hnb17 := NB213_212.out
    have hnc17 := NB212_213.out
    have hcz18_0 : wr.cell? ⟨gb213, 0, none⟩ = some (.bool x214000_1) := (blk_cell BK213.out 0).trans rfl
    have hcz18_1 : wr.cell? ⟨gb213, 1, none⟩ = some (.bool x214001_1) := (blk_cell BK213.out 1).trans rfl
    have hcz18_2 : wr.cell? ⟨gb213, 2, none⟩ = some (.bool x214002_1) := (blk_cell BK213.out 2).trans rfl
    have hcz18_3 : wr.cell? ⟨gb213, 3, none⟩ = some (.int .i64 x214003_1) := (blk_cell BK213.out 3).trans rfl
    have hcz18_4 : wr.cell? ⟨gb213, 4, none⟩ = some (.string x214004_1) := (blk_cell BK213.out 4).trans rfl
    have hcz18_5 : wr.cell? ⟨gb213, 5, none⟩ = some (.bool x214005_1) := (blk_cell BK213.out 5).trans rfl
    have hcz18_6 : wr.cell? ⟨gb213, 6, none⟩ = some (.int .i64 x214006_1) := (blk_cell BK213.out 6).trans rfl
    have hcz18_7 : wr.cell? ⟨gb213, 7, none⟩ = some (.string x214007_1) := (blk_cell BK213.out 7).trans rfl
    have hfz18_0 := blk_frozen BK213.out 0
    have hfz18_1 := blk_frozen BK213.out 1
    have hfz18_2 := blk_frozen BK213.out 2
    have hfz18_3 := blk_frozen BK213.out 3
    have hfz18_4 := blk_frozen BK213.out 4
    have hfz18_5 := blk_frozen BK213.out 5
    have hfz18_6 := blk_frozen BK213.out 6
    have hfz18_7 := blk_frozen BK213.out 7
    have hcz19_0 : wr.cell? ⟨gb212, 0, none⟩ = some (.bool false) := (blk_cell BK212.out 0).trans rfl
    have hcz19_1 : wr.cell? ⟨gb212, 1, none⟩ = some (.bool false) := (blk_cell BK212.out 1).trans rfl
    have hcz19_2 : wr.cell? ⟨gb212, 2, none⟩ = some (.bool false) := (blk_cell BK212.out 2).trans rfl
    have hcz19_3 : wr.cell? ⟨gb212, 3, none⟩ = some (.int .i64 0) := (blk_cell BK212.out 3).trans rfl
    have hcz19_4 : wr.cell? ⟨gb212, 4, none⟩ = some (.string (⟨#[]⟩ : ByteArray)) := (blk_cell BK212.out 4).trans rfl
    have hcz19_5 : wr.cell? ⟨gb212, 5, none⟩ = some (.bool false) := (blk_cell BK212.out 5).trans rfl
    have hcz19_6 : wr.cell? ⟨gb212, 6, none⟩ = some (.int .i64 0) := (blk_cell BK212.out 6).trans rfl
    have hcz19_7 : wr.cell? ⟨gb212, 7, none⟩ = some (.string (⟨#[]⟩ : ByteArray)) := (blk_cell BK212.out 7).trans rfl
    have hfz19_0 := blk_frozen BK212.out 0
    have hfz19_1 := blk_frozen BK212.out 1
    have hfz19_2 := blk_frozen BK212.out 2
    have hfz19_3 := blk_frozen BK212.out 3
    have hfz19_4 := blk_frozen BK212.out 4
    have hfz19_5 := blk_frozen BK212.out 5
    have hfz19_6 := blk_frozen BK212.out 6
    have hfz19_7 := blk_frozen BK212.out 7
    go_wp2
    refine bodyPost_ret (results_cell_row rfl _ _ gb212 41 #[.bool x214000_1, .bool x214001_1, .bool x214002_1, .int .i64 x214003_1, .string x214004_1, .bool x214005_1, .int .i64 x214006_1, .string x214007_1] (0, 0) _ rfl (by (with_reducible repeat (first | refine blk_drewN ?_ _ | refine blk_drew ?_ | refine blk_alloc ?_ _)); refine blk_put (cs := #[.bool x214000_1, .bool x214001_1, .bool x214002_1, .int .i64 x214003_1, .string x214004_1, .bool x214005_1, .int .i64 x214006_1, .string (⟨#[]⟩ : ByteArray)]) ?_ 7 _ rfl; (with_reducible repeat (first | refine blk_drewN ?_ _ | refine blk_drew ?_ | refine blk_alloc ?_ _)); refine blk_put (cs := #[.bool x214000_1, .bool x214001_1, .bool x214002_1, .int .i64 x214003_1, .string x214004_1, .bool x214005_1, .int .i64 0, .string (⟨#[]⟩ : ByteArray)]) ?_ 6 _ rfl; (with_reducible repeat (first | refine blk_drewN ?_ _ | refine blk_drew ?_ | refine blk_alloc ?_ _)); refine blk_put (cs := #[.bool x214000_1, .bool x214001_1, .bool x214002_1, .int .i64 x214003_1, .string x214004_1, .bool false, .int .i64 0, .string (⟨#[]⟩ : ByteArray)]) ?_ 5 _ rfl; (with_reducible repeat (first | refine blk_drewN ?_ _ | refine blk_drew ?_ | refine blk_alloc ?_ _)); refine blk_put (cs := #[.bool x214000_1, .bool x214001_1, .bool x214002_1, .int .i64 x214003_1, .string (⟨#[]⟩ : ByteArray), .bool false, .int .i64 0, .string (⟨#[]⟩ : ByteArray)]) ?_ 4 _ rfl; (with_reducible repeat (first | refine blk_drewN ?_ _ | refine blk_drew ?_ | refine blk_alloc ?_ _)); refine blk_put (cs := #[.bool x214000_1, .bool x214001_1, .bool x214002_1, .int .i64 0, .string (⟨#[]⟩ : ByteArray), .bool false, .int .i64 0, .string (⟨#[]⟩ : ByteArray)]) ?_ 3 _ rfl; (with_reducible repeat (first | refine blk_drewN ?_ _ | refine blk_drew ?_ | refine blk_alloc ?_ _)); refine blk_put (cs := #[.bool x214000_1, .bool x214001_1, .bool false, .int .i64 0, .string (⟨#[]⟩ : ByteArray), .bool false, .int .i64 0, .string (⟨#[]⟩ : ByteArray)]) ?_ 2 _ rfl; (with_reducible repeat (first | refine blk_drewN ?_ _ | refine blk_drew ?_ | refine blk_alloc ?_ _)); refine blk_put (cs := #[.bool x214000_1, .bool false, .bool false, .int .i64 0, .string (⟨#[]⟩ : ByteArray), .bool false, .int .i64 0, .string (⟨#[]⟩ : ByteArray)]) ?_ 1 _ rfl; (with_reducible repeat (first | refine blk_drewN ?_ _ | refine blk_drew ?_ | refine blk_alloc ?_ _)); refine blk_put (cs := #[.bool false, .bool false, .bool false, .int .i64 0, .string (⟨#[]⟩ : ByteArray), .bool false, .int .i64 0, .string (⟨#[]⟩ : ByteArray)]) ?_ 0 _ rfl; (with_reducible repeat (first | refine blk_drewN ?_ _ | refine blk_drew ?_ | refine blk_alloc ?_ _)); exact BK212.out) Try.underlying41 rfl (by kernel_rfl)) rfl ?_
    exact ⟨by first | rfl | (simp [errW_none, errW_some] <;> rfl) | (simp [*, errW_none, errW_some] <;> rfl), by repeat (first | (with_reducible first | exact HB.out | apply below_alloc | apply pw_below_drewN | apply below_drew1 | refine below_set ?_ GE212.out | refine below_set ?_ GE213.out) | exact HB.out)⟩
/-! ### tithebarnref11_Of_c: function 23 -/
--@import Derived.Test.YtnfliommpdjlkaaThy
def ofR (l : List S27) : Zn := l.foldl addR zeroZ
theorem rdVr_at (l : List S27) (n : Nat) (h : n < l.length) : rd_T27 l (n : Int) = l[n] := by
  simp [rd_T27, List.getD_eq_getElem?_getD, List.getElem?_eq_getElem h]
theorem addR_small {z : Zn} {v : S27} (hz : z.hi.f2.size ≤ 9223372036854775807) (hv : v.f2.size ≤ 9223372036854775807) : (addR z v).hi.f2.size ≤ 9223372036854775807 := by
  unfold addR
  split
  · exact hz
  · show (if z.va = true then (if lessV z.hi v = true then v else z.hi) else v).f2.size ≤ _
    split
    · split
      · exact hv
      · exact hz
    · exact hv
theorem tithebarnref11_Of.tells (l : List S27) (hl : l.length ≤ 9223372036854775807) (hs : ∀ v ∈ l, v.f2.size ≤ 9223372036854775807) : ∀ (d k n : Nat) (z : Zn), z.hi.f2.size ≤ 9223372036854775807 → n + d = l.length → d < k →
    tithebarnref11_Of.l0 k l (n : Int) z.nu z.va z.lo.f0 z.lo.f1 z.lo.f2 z.hi.f0 z.hi.f1 z.hi.f2 = some ((l.drop n).foldl addR z).tup := by
  intro d
  induction d with
  | zero =>
    intro k n z hz hn hk
    obtain ⟨k, rfl⟩ : ∃ m, k = m + 1 := ⟨k - 1, by omega⟩
    rw [tithebarnref11_Of.l0, if_neg (by omega), List.drop_eq_nil_of_le (by omega)]
    rfl
  | succ d ih =>
    intro k n z hz hn hk
    obtain ⟨k, rfl⟩ : ∃ m, k = m + 1 := ⟨k - 1, by omega⟩
    have hlt : n < l.length := by omega
    have hw : wrap64 ((n : Int) + 1) = ((n + 1 : Nat) : Int) := by unfold wrap64; omega
    have hv := hs l[n] (List.getElem_mem hlt)
    rw [tithebarnref11_Of.l0, if_pos (by omega), if_pos (by omega), hw, rdVr_at l n hlt, List.drop_eq_getElem_cons hlt, List.foldl_cons]
    simp only [tithebarnref11_add_c.f, if_pos (⟨hv, hz⟩ : l[n].f2.size ≤ 9223372036854775807 ∧ z.hi.f2.size ≤ 9223372036854775807), Option.bind_some, Zn.tup]
    exact ih k (n + 1) (addR z l[n]) (addR_small hz hv) (by omega) (by omega)
def tithebarnref11_Of_c.f (l : List S27) : Option (Bool × Bool × Bool × Int × ByteArray × Bool × Int × ByteArray) := if l.all (fun v => decide (v.f2.size ≤ 9223372036854775807)) = true then some (ofR l).tup else none
theorem tithebarnref11_Of_c.calls (A0 : Option Addr) (c0 : Nat) (l0 : List (S27)) (r1 : Bool) (r2 : Bool) (r3 : Bool) (r4 : Int) (r5 : ByteArray) (r6 : Bool) (r7 : Int) (r8 : ByteArray) (w : World) (hr0 : Kd.C k27 w A0 l0.length l0) (hc0 : l0.length ≤ c0) (h : tithebarnref11_Of_c.f l0 = some (r1, r2, r3, r4, r5, r6, r7, r8)) :
    Calls Try.prog 23 #[.slice A0 l0.length c0] w fun e w' => e = .returned (.agg #[.bool r1, .bool r2, .bool r3, .int .i64 r4, .string r5, .bool r6, .int .i64 r7, .string r8]) ∧ Below w.heap.size w w' := by
  unfold tithebarnref11_Of_c.f at h
  split at h
  · rename_i g
    refine tithebarnref11_Of.calls (l0.length + 1) A0 c0 l0 r1 r2 r3 r4 r5 r6 r7 r8 w hr0 hc0 (Eq.trans ?_ h)
    have := tithebarnref11_Of.tells l0 hr0.2.1 (fun v hv => of_decide_eq_true (List.all_eq_true.1 g v hv)) l0.length (l0.length + 1) 0 zeroZ (Nat.zero_le _) (by omega) (by omega)
    rw [List.drop_zero] at this
    exact this
  · cases h


end Go.Proofs.Ytnfliommpdjlkaa.Pr
