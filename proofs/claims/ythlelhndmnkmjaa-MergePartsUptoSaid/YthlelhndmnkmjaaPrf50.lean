-- printed by xprint.py
import Derived.Test.YthlelhndmnkmjaaPr0
import Derived.Test.YthlelhndmnkmjaaPrf77
import Derived.Test.YthlelhndmnkmjaaThy
namespace Go.Proofs.Ythlelhndmnkmjaa.Pr
open Go.RowKit Go.Proofs.YthlelhndmnkmjaaW PrintWords PrintLast PrintMore
set_option linter.unusedVariables false
set_option linter.unusedSimpArgs false

/-! ### tithebarnref02_Ahead: function 50 -/
def tithebarnref02_Ahead.j0 : Nat → Bool → Bool → Int → ByteArray → Bool → Int → ByteArray → Option (Bool)
 | 0, _, _, _, _, _, _, _ => none
 | k + 1, x10, x159000, x159001, x159002, x160000, x160001, x160002 => if x10 = true then (if x159000 = true then (some (!x160000)) else (some false)) else (if x159001 = x160001 then ((tithebarnref02_ahead_c.f x159002 x160002).bind fun t160 => (some t160)) else (some (decide (x159001 < x160001))))
def tithebarnref02_Ahead.f (k : Nat) (a0_0 : Bool) (a0_1 : Int) (a0_2 : ByteArray) (a1_0 : Bool) (a1_1 : Int) (a1_2 : ByteArray) : Option (Bool) := if a0_0 = true then (tithebarnref02_Ahead.j0 k true a0_0 a0_1 a0_2 a1_0 a1_1 a1_2) else (tithebarnref02_Ahead.j0 k a1_0 a0_0 a0_1 a0_2 a1_0 a1_1 a1_2)
theorem tithebarnref02_Ahead.mono_l : ∀ k, (∀ y0 y1 y2 y3 y4 y5 y6, LeO (tithebarnref02_Ahead.j0 k y0 y1 y2 y3 y4 y5 y6) (tithebarnref02_Ahead.j0 (k + 1) y0 y1 y2 y3 y4 y5 y6))
 | 0 => fun _ _ _ _ _ _ _ r h => by simp [tithebarnref02_Ahead.j0] at h
 | k + 1 => by
  have ih0 := tithebarnref02_Ahead.mono_l k
  ·intro y0 y1 y2 y3 y4 y5 y6
   unfold tithebarnref02_Ahead.j0
   repeat' first
   | (with_reducible exact ih0 _ _ _ _ _ _ _)
   | (with_reducible exact LeO.refl _)
   | (with_reducible exact LeO.none _)
   | (with_reducible refine LeO.ite ?_ ?_)
   | (with_reducible refine LeO.bind ?_ (fun _ => ?_))
theorem tithebarnref02_Ahead.mono : ∀ a0 a1 a2 a3 a4 a5 k, LeO (tithebarnref02_Ahead.f k a0 a1 a2 a3 a4 a5) (tithebarnref02_Ahead.f (k + 1) a0 a1 a2 a3 a4 a5) := by
 intro a0 a1 a2 a3 a4 a5 k
 have ih0 := tithebarnref02_Ahead.mono_l k
 unfold tithebarnref02_Ahead.f
 repeat' first
   | (with_reducible exact ih0 _ _ _ _ _ _ _)
   | (with_reducible exact LeO.refl _)
   | (with_reducible exact LeO.none _)
   | (with_reducible refine LeO.ite ?_ ?_)
   | (with_reducible refine LeO.bind ?_ (fun _ => ?_))
set_option maxHeartbeats 8000000 in
set_option maxRecDepth 100000 in
theorem tithebarnref02_Ahead.calls (k : Nat) (a0_0 : Bool) (a0_1 : Int) (a0_2 : ByteArray) (a1_0 : Bool) (a1_1 : Int) (a1_2 : ByteArray) (r : Bool) (w : World) (h : tithebarnref02_Ahead.f k a0_0 a0_1 a0_2 a1_0 a1_1 a1_2 = some r) :
  Calls Try.prog 50 #[.agg #[.bool a0_0, .int .i64 a0_1, .string a0_2], .agg #[.bool a1_0, .int .i64 a1_1, .string a1_2]] w fun e w' => e = .returned (.bool r) ∧ Below w.heap.size w w' := by
 have hu37 := Try.underlying37
 have HB := Aside0.mk (Below.refl w.heap.size w)
 have H : (if a0_0 = true then (tithebarnref02_Ahead.j0 k true a0_0 a0_1 a0_2 a1_0 a1_1 a1_2) else (tithebarnref02_Ahead.j0 k a1_0 a0_0 a0_1 a0_2 a1_0 a1_1 a1_2)) = some r := h
 clear h
 have HC3 := Aside0.mk H
 clear H
 go_enter Try.func50, Try.ntmps50
 go_upto_region 1 with (first | ((with_reducible refine gate_dst (N := 2) rfl ?_); refine box_event ?hg (N := 2) ?hd (cs := #[.bool a0_0, .int .i64 a0_1, .string a0_2]) (t := 37) ?hr ?_; (case hd => rfl); (case hg => rfl); (case hr => first | (go_simp; done) | (go_simp; rfl)); intro gb158 hg w4 hbox hb; have n0_ := Aside0.mk (below_step (by with_reducible repeat first | exact HB.out | apply below_alloc | apply pw_below_drewN | apply below_drew1) hb); have n1_ := Aside0.mk (hbox); have n2_ := Aside0.mk ((by rw [hg]; exact (below_size (by with_reducible repeat first | exact HB.out | apply below_alloc | apply pw_below_drewN | apply below_drew1)) : w.heap.size ≤ gb158)); have n3_ := Aside0.mk ((by rw [hg]; exact (below_size (by with_reducible repeat first | exact HB.out | apply below_alloc | apply pw_below_drewN | apply below_drew1)) : w.heap.size ≤ gb158)); clear HB; have HB := n0_; have BK158 := n1_; have GW158 := n2_; have GE158 := n3_; clear n0_ n1_ n2_ n3_; clear hb hbox hg) | ((with_reducible refine gate_dst (N := 3) rfl ?_); refine box_event ?hg (N := 3) ?hd (cs := #[.bool a1_0, .int .i64 a1_1, .string a1_2]) (t := 37) ?hr ?_; (case hd => rfl); (case hg => rfl); (case hr => first | (go_simp; done) | (go_simp; rfl)); intro gb159 hg w5 hbox hb; have n0_ := Aside0.mk (blk_below (g := gb158) (o := .cells #[.bool a0_0, .int .i64 a0_1, .string a0_2] 37 (0, 0)) (by (with_reducible repeat (first | refine blk_drewN ?_ _ | refine blk_drew ?_ | refine blk_alloc ?_ _)); exact BK158.out) hb); have n1_ := Aside0.mk (below_step (by with_reducible repeat first | exact HB.out | apply below_alloc | apply pw_below_drewN | apply below_drew1 | refine below_set ?_ GE158.out) hb); have n2_ := Aside0.mk (hbox); have n3_ := Aside0.mk ((by rw [hg]; exact (below_size (by with_reducible repeat first | exact HB.out | apply below_alloc | apply pw_below_drewN | apply below_drew1 | refine below_set ?_ GE158.out)) : w.heap.size ≤ gb159)); have n4_ := Aside0.mk ((by rw [hg]; exact (below_size (by with_reducible repeat first | exact HB.out | apply below_alloc | apply pw_below_drewN | apply below_drew1 | refine below_set ?_ GE158.out)) : w.heap.size ≤ gb159)); have n5_ := Aside0.mk ((by rw [hg]; exact Nat.ne_of_lt (blk_lt (g := gb158) (o := .cells #[.bool a0_0, .int .i64 a0_1, .string a0_2] 37 (0, 0)) (by (with_reducible repeat (first | refine blk_drewN ?_ _ | refine blk_drew ?_ | refine blk_alloc ?_ _)); exact BK158.out)) : gb158 ≠ gb159)); have n6_ := Aside0.mk ((by rw [hg]; exact Nat.ne_of_gt (blk_lt (g := gb158) (o := .cells #[.bool a0_0, .int .i64 a0_1, .string a0_2] 37 (0, 0)) (by (with_reducible repeat (first | refine blk_drewN ?_ _ | refine blk_drew ?_ | refine blk_alloc ?_ _)); exact BK158.out)) : gb159 ≠ gb158)); clear BK158; clear HB; have BK158 := n0_; have HB := n1_; have BK159 := n2_; have GW159 := n3_; have GE159 := n4_; have NB158_159 := n5_; have NB159_158 := n6_; clear n0_ n1_ n2_ n3_ n4_ n5_ n6_; clear hb hbox hg))
 (try simp only [Act.put, List.setIfInBounds_toArray, List.set_cons_zero, List.set_cons_succ])
 go_cut [10] (fun v10 wc => ∃ (kq : Nat) (x10_2 : Bool), v10 = .bool x10_2 ∧ Aside0 (tithebarnref02_Ahead.j0 kq x10_2 a0_0 a0_1 a0_2 a1_0 a1_1 a1_2 = some r) ∧ Aside0 (kq ≤ k) ∧ Aside0 (wc.heap[gb158]? = some (.cells #[.bool a0_0, .int .i64 a0_1, .string a0_2] 37 (0, 0))) ∧ Aside0 (wc.heap[gb159]? = some (.cells #[.bool a1_0, .int .i64 a1_1, .string a1_2] 37 (0, 0))) ∧ Aside0 (Below w.heap.size w wc))
 case first =>
  have H := HC3.out
  clear HC3
  by_cases c6 : a0_0 = true
  ·subst c6
   have H1 : (tithebarnref02_Ahead.j0 k true true a0_1 a0_2 a1_0 a1_1 a1_2) = some r := by rw [if_pos rfl] at H; exact H
   clear H
   have H := H1
   clear H1
   have H' := Aside0.mk H
   clear H
   have hnb7 := NB158_159.out
   have hnc7 := NB159_158.out
   obtain ⟨hcz8_0, hcz8_1, hcz8_2⟩ := bc3 BK158.out
   obtain ⟨hfz8_0, hfz8_1, hfz8_2⟩ := bf3 BK158.out
   go_wp2
   go_meet
   case rel => exact ⟨_, (true), (by first | rfl | (simp; done) | (simp [*]; done)), H', ⟨by first | omega | exact Nat.le_refl _⟩, ⟨by (with_reducible repeat (first | refine blk_drewN ?_ _ | refine blk_drew ?_ | refine blk_alloc ?_ _)); exact BK158.out⟩, ⟨by (with_reducible repeat (first | refine blk_drewN ?_ _ | refine blk_drew ?_ | refine blk_alloc ?_ _)); exact BK159.out⟩, ⟨by repeat (first | (with_reducible first | exact HB.out | apply below_alloc | apply pw_below_drewN | apply below_drew1 | refine below_set ?_ GE158.out | refine below_set ?_ GE159.out) | exact HB.out)⟩⟩
  ·replace c6 := Bool.eq_false_iff.mpr c6
   subst c6
   have H1 : (tithebarnref02_Ahead.j0 k a1_0 false a0_1 a0_2 a1_0 a1_1 a1_2) = some r := by rw [if_neg (show ¬ (false = true) by decide)] at H; exact H
   clear H
   have H := H1
   clear H1
   have H' := Aside0.mk H
   clear H
   have hnb9 := NB158_159.out
   have hnc9 := NB159_158.out
   obtain ⟨hcz10_0, hcz10_1, hcz10_2⟩ := bc3 BK158.out
   obtain ⟨hfz10_0, hfz10_1, hfz10_2⟩ := bf3 BK158.out
   obtain ⟨hcz11_0, hcz11_1, hcz11_2⟩ := bc3 BK159.out
   obtain ⟨hfz11_0, hfz11_1, hfz11_2⟩ := bf3 BK159.out
   go_wp2
   go_meet
   case rel => exact ⟨_, (a1_0), (by first | rfl | (simp; done) | (simp [*]; done)), H', ⟨by first | omega | exact Nat.le_refl _⟩, ⟨by (with_reducible repeat (first | refine blk_drewN ?_ _ | refine blk_drew ?_ | refine blk_alloc ?_ _)); exact BK158.out⟩, ⟨by (with_reducible repeat (first | refine blk_drewN ?_ _ | refine blk_drew ?_ | refine blk_alloc ?_ _)); exact BK159.out⟩, ⟨by repeat (first | (with_reducible first | exact HB.out | apply below_alloc | apply pw_below_drewN | apply below_drew1 | refine below_set ?_ GE158.out | refine below_set ?_ GE159.out) | exact HB.out)⟩⟩
 case rest =>
  clear HC3
  try clear p2
  try clear c5
  try clear c6
  try clear c7
  try clear c9
  try clear hcz10_0 hcz10_1 hcz10_2
  try clear hcz11_0 hcz11_1 hcz11_2
  try clear hcz8_0 hcz8_1 hcz8_2
  try clear hfz10_0 hfz10_1 hfz10_2
  try clear hfz11_0 hfz11_1 hfz11_2
  try clear hfz8_0 hfz8_1 hfz8_2
  obtain ⟨kq, x10_2, rfl, HA, HJ2, BK158, BK159, HB⟩ := hcut
  cases kq with
  | zero => exact absurd HA.out (by simp [tithebarnref02_Ahead.j0])
  | succ kj2 =>
   have H := HA.out
   clear HA
   simp only [tithebarnref02_Ahead.j0] at H
   by_cases c12 : x10_2 = true
   ·subst c12
    have H1 : (if a0_0 = true then (some (!a1_0)) else (some false)) = some r := by rw [if_pos rfl] at H; exact H
    clear H
    have H := H1
    clear H1
    by_cases c13 : a0_0 = true
    ·subst c13
     have H1 : (some (!a1_0)) = some r := by rw [if_pos rfl] at H; exact H
     clear H
     have H := H1
     clear H1
     obtain rfl := Option.some.inj H
     have hnb14 := NB158_159.out
     have hnc14 := NB159_158.out
     obtain ⟨hcz15_0, hcz15_1, hcz15_2⟩ := bc3 BK158.out
     obtain ⟨hfz15_0, hfz15_1, hfz15_2⟩ := bf3 BK158.out
     obtain ⟨hcz16_0, hcz16_1, hcz16_2⟩ := bc3 BK159.out
     obtain ⟨hfz16_0, hfz16_1, hfz16_2⟩ := bf3 BK159.out
     go_wp2
     go_ret
     exact ⟨by first | rfl | (simp [errW_none, errW_some] <;> rfl) | (simp [*, errW_none, errW_some] <;> rfl), by repeat (first | (with_reducible first | exact HB.out | apply below_alloc | apply pw_below_drewN | apply below_drew1 | refine below_set ?_ GE158.out | refine below_set ?_ GE159.out) | exact HB.out)⟩
    ·replace c13 := Bool.eq_false_iff.mpr c13
     subst c13
     have H1 : (some false) = some r := by rw [if_neg (show ¬ (false = true) by decide)] at H; exact H
     clear H
     have H := H1
     clear H1
     obtain rfl := Option.some.inj H
     have hnb17 := NB158_159.out
     have hnc17 := NB159_158.out
     obtain ⟨hcz18_0, hcz18_1, hcz18_2⟩ := bc3 BK158.out
     obtain ⟨hfz18_0, hfz18_1, hfz18_2⟩ := bf3 BK158.out
     go_wp2
     go_ret
     exact ⟨by first | rfl | (simp [errW_none, errW_some] <;> rfl) | (simp [*, errW_none, errW_some] <;> rfl), by repeat (first | (with_reducible first | exact HB.out | apply below_alloc | apply pw_below_drewN | apply below_drew1 | refine below_set ?_ GE158.out | refine below_set ?_ GE159.out) | exact HB.out)⟩
   ·replace c12 := Bool.eq_false_iff.mpr c12
    subst c12
    have H1 : (if a0_1 = a1_1 then ((tithebarnref02_ahead_c.f a0_2 a1_2).bind fun t160 => (some t160)) else (some (decide (a0_1 < a1_1)))) = some r := by rw [if_neg (show ¬ (false = true) by decide)] at H; exact H
    clear H
    have H := H1
    clear H1
    by_cases c19 : a0_1 = a1_1
    ·rw [if_pos c19] at H
     have c19b0 : (a0_1 == a1_1) = true := beq_iff_eq.mpr c19
     have c19b1 : (a0_1 != a1_1) = false := bne_eq_false_iff_eq.mpr c19
     clear c19
     replace H := Option.bind_eq_some_iff.mp H
     obtain ⟨t160, A200, H⟩ := H
     replace H : (some t160) = some r := H
     have A20 := Aside0.mk A200
     clear A200
     obtain rfl := Option.some.inj H
     have hnb21 := NB158_159.out
     have hnc21 := NB159_158.out
     obtain ⟨hcz22_0, hcz22_1, hcz22_2⟩ := bc3 BK158.out
     obtain ⟨hfz22_0, hfz22_1, hfz22_2⟩ := bf3 BK158.out
     obtain ⟨hcz23_0, hcz23_1, hcz23_2⟩ := bc3 BK159.out
     obtain ⟨hfz23_0, hfz23_1, hfz23_2⟩ := bf3 BK159.out
     go_wp2_with (first | ((with_reducible refine gate_callee (f := 77) rfl ?_); refine goesL_ (some 32) rfl rfl Try.func77 (by kernel_rfl) rfl #[.string a0_2, .string a1_2] rfl (by (try simp only [List.map_toArray, List.map_cons, List.map_nil]); first | done | rfl | (simp only [List.length_drop, List.length_take]; rfl)) ?_; (with_reducible refine (tithebarnref02_ahead_c.calls a0_2 a1_2 t160 _ A20.out).mono ?_); rintro e w' ⟨rfl, ⟨nd, rfl⟩⟩; refine ⟨_, rfl, ?_⟩))
     go_ret
     exact ⟨by first | rfl | (simp [errW_none, errW_some] <;> rfl) | (simp [*, errW_none, errW_some] <;> rfl), by repeat (first | (with_reducible first | exact HB.out | apply below_alloc | apply pw_below_drewN | apply below_drew1 | refine below_set ?_ GE158.out | refine below_set ?_ GE159.out) | exact HB.out)⟩
    ·rw [if_neg c19] at H
     have c19b0 : (a0_1 == a1_1) = false := beq_eq_false_iff_ne.mpr c19
     have c19b1 : (a0_1 != a1_1) = true := bne_iff_ne.mpr c19
     obtain rfl := Option.some.inj H
     have hnb24 := NB158_159.out
     have hnc24 := NB159_158.out
     obtain ⟨hcz25_0, hcz25_1, hcz25_2⟩ := bc3 BK158.out
     obtain ⟨hfz25_0, hfz25_1, hfz25_2⟩ := bf3 BK158.out
     obtain ⟨hcz26_0, hcz26_1, hcz26_2⟩ := bc3 BK159.out
     obtain ⟨hfz26_0, hfz26_1, hfz26_2⟩ := bf3 BK159.out
     go_wp2
     go_ret
     exact ⟨by first | rfl | (simp [errW_none, errW_some] <;> rfl) | (simp [*, errW_none, errW_some] <;> rfl), by repeat (first | (with_reducible first | exact HB.out | apply below_alloc | apply pw_below_drewN | apply below_drew1 | refine below_set ?_ GE158.out | refine below_set ?_ GE159.out) | exact HB.out)⟩
/-! ### tithebarnref02_Ahead_c: function 50 -/
--@import Derived.Test.YthlelhndmnkmjaaThy
theorem tithebarnref02_Ahead.is (an : Bool) (ai : Int) (as_ : ByteArray) (bn : Bool) (bi : Int) (bs : ByteArray) (h : as_.size ≤ 9223372036854775807) : tithebarnref02_Ahead.f 1 an ai as_ bn bi bs = some (Thy.less an ai as_ bn bi bs) := by
  cases an <;> cases bn <;> simp [tithebarnref02_Ahead.f, tithebarnref02_Ahead.j0, Thy.less]
  by_cases e : ai = bi
  · simp [e, tithebarnref02_ahead_c.f, h]
  · simp [e]
def tithebarnref02_Ahead_c.f (a0_0 : Bool) (a0_1 : Int) (a0_2 : ByteArray) (a1_0 : Bool) (a1_1 : Int) (a1_2 : ByteArray) : Option (Bool) := if a0_2.size ≤ 9223372036854775807 then some (Thy.less a0_0 a0_1 a0_2 a1_0 a1_1 a1_2) else none
theorem tithebarnref02_Ahead_c.calls (a0_0 : Bool) (a0_1 : Int) (a0_2 : ByteArray) (a1_0 : Bool) (a1_1 : Int) (a1_2 : ByteArray) (r : Bool) (w : World) (h : tithebarnref02_Ahead_c.f a0_0 a0_1 a0_2 a1_0 a1_1 a1_2 = some r) :
    Calls Try.prog 50 #[.agg #[.bool a0_0, .int .i64 a0_1, .string a0_2], .agg #[.bool a1_0, .int .i64 a1_1, .string a1_2]] w fun e w' => e = .returned (.bool r) ∧ Below w.heap.size w w' := by
  unfold tithebarnref02_Ahead_c.f at h
  split at h
  · rename_i hs
    exact tithebarnref02_Ahead.calls 1 _ _ _ _ _ _ r w ((tithebarnref02_Ahead.is _ _ _ _ _ _ hs).trans h)
  · cases h


end Go.Proofs.Ythlelhndmnkmjaa.Pr
