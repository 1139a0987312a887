-- printed by xprint.py
import Derived.Test.YtcbgcmaioicdbaaPr0
import Derived.Test.YtcbgcmaioicdbaaPrf33
namespace Go.Proofs.Ytcbgcmaioicdbaa.Pr
open Go.RowKit Go.Proofs.YtcbgcmaioicdbaaW PrintWords PrintLast PrintMore
set_option linter.unusedVariables false
set_option linter.unusedSimpArgs false

/-! ### levels_span: function 26 -/
mutual
def levels_span.l0 : Nat → List (S38) → Int → Int → Int → Int → Bool → Int → ByteArray → Bool → Int → ByteArray → Option (Int × Int × Bool × Int × ByteArray × Bool × Int × ByteArray)
 | 0, _, _, _, _, _, _, _, _, _, _, _ => none
 | k + 1, x10, x11, x12, x125000, x125001, x125002, x125003, x125004, x125005, x125006, x125007 => if x12 < x11 then (if 0 ≤ x12 then (if x12 < (x10.length : Int) then ((kinds_Compare_c.f ((rd_T38 x10 x12).f2.f0) ((rd_T38 x10 x12).f2.f1) ((rd_T38 x10 x12).f2.f2) x125002 x125003 x125004).bind fun t131 => (if t131 < 0 then (levels_span.j1 k x10 x11 x12 x125000 x125001 ((rd_T38 x10 x12).f2.f0) ((rd_T38 x10 x12).f2.f1) ((rd_T38 x10 x12).f2.f2) x125005 x125006 x125007 ((rd_T38 x10 x12).f0) ((rd_T38 x10 x12).f1) ((rd_T38 x10 x12).f2.f0) ((rd_T38 x10 x12).f2.f1) ((rd_T38 x10 x12).f2.f2) ((rd_T38 x10 x12).f3.f0) ((rd_T38 x10 x12).f3.f1) ((rd_T38 x10 x12).f3.f2)) else (levels_span.j1 k x10 x11 x12 x125000 x125001 x125002 x125003 x125004 x125005 x125006 x125007 ((rd_T38 x10 x12).f0) ((rd_T38 x10 x12).f1) ((rd_T38 x10 x12).f2.f0) ((rd_T38 x10 x12).f2.f1) ((rd_T38 x10 x12).f2.f2) ((rd_T38 x10 x12).f3.f0) ((rd_T38 x10 x12).f3.f1) ((rd_T38 x10 x12).f3.f2)))) else (none)) else (none)) else (some (x125000, x125001, x125002, x125003, x125004, x125005, x125006, x125007))
def levels_span.j1 : Nat → List (S38) → Int → Int → Int → Int → Bool → Int → ByteArray → Bool → Int → ByteArray → Int → Int → Bool → Int → ByteArray → Bool → Int → ByteArray → Option (Int × Int × Bool × Int × ByteArray × Bool × Int × ByteArray)
 | 0, _, _, _, _, _, _, _, _, _, _, _, _, _, _, _, _, _, _, _ => none
 | k + 1, x10, x11, x12, x125000, x125001, x125002, x125003, x125004, x125005, x125006, x125007, x131000, x131001, x131002, x131003, x131004, x131005, x131006, x131007 => (kinds_Compare_c.f x131005 x131006 x131007 x125005 x125006 x125007).bind fun t132 => (if t132 > 0 then (levels_span.l0 k x10 x11 (wrap64 (x12 + 1)) x125000 x125001 x125002 x125003 x125004 x131005 x131006 x131007) else (levels_span.l0 k x10 x11 (wrap64 (x12 + 1)) x125000 x125001 x125002 x125003 x125004 x125005 x125006 x125007))
end
def levels_span.f (k : Nat) (l0 : List (S38)) : Option (Int × Int × Bool × Int × ByteArray × Bool × Int × ByteArray) := if 0 < (l0.length : Int) then (if 1 ≤ (l0.length : Int) then ((some (l0.drop 1 : List (S38))).bind fun y125 => (levels_span.l0 k y125 (y125.length : Int) 0 ((rd_T38 l0 0).f0) ((rd_T38 l0 0).f1) ((rd_T38 l0 0).f2.f0) ((rd_T38 l0 0).f2.f1) ((rd_T38 l0 0).f2.f2) ((rd_T38 l0 0).f3.f0) ((rd_T38 l0 0).f3.f1) ((rd_T38 l0 0).f3.f2))) else (none)) else (none)
theorem levels_span.mono_l : ∀ k, (∀ y0 y1 y2 y3 y4 y5 y6 y7 y8 y9 y10, LeO (levels_span.l0 k y0 y1 y2 y3 y4 y5 y6 y7 y8 y9 y10) (levels_span.l0 (k + 1) y0 y1 y2 y3 y4 y5 y6 y7 y8 y9 y10)) ∧ (∀ y0 y1 y2 y3 y4 y5 y6 y7 y8 y9 y10 y11 y12 y13 y14 y15 y16 y17 y18, LeO (levels_span.j1 k y0 y1 y2 y3 y4 y5 y6 y7 y8 y9 y10 y11 y12 y13 y14 y15 y16 y17 y18) (levels_span.j1 (k + 1) y0 y1 y2 y3 y4 y5 y6 y7 y8 y9 y10 y11 y12 y13 y14 y15 y16 y17 y18))
 | 0 => ⟨fun _ _ _ _ _ _ _ _ _ _ _ r h => by simp [levels_span.l0] at h, fun _ _ _ _ _ _ _ _ _ _ _ _ _ _ _ _ _ _ _ r h => by simp [levels_span.j1] at h⟩
 | k + 1 => by
  obtain ⟨ih0, ih1⟩ := levels_span.mono_l k
  refine ⟨?_, ?_⟩
  ·intro y0 y1 y2 y3 y4 y5 y6 y7 y8 y9 y10
   unfold levels_span.l0
   repeat' first
   | (with_reducible exact ih0 _ _ _ _ _ _ _ _ _ _ _)
   | (with_reducible exact ih1 _ _ _ _ _ _ _ _ _ _ _ _ _ _ _ _ _ _ _)
   | (with_reducible exact LeO.refl _)
   | (with_reducible exact LeO.none _)
   | (with_reducible refine LeO.ite ?_ ?_)
   | (with_reducible refine LeO.bind ?_ (fun _ => ?_))
  ·intro y0 y1 y2 y3 y4 y5 y6 y7 y8 y9 y10 y11 y12 y13 y14 y15 y16 y17 y18
   unfold levels_span.j1
   repeat' first
   | (with_reducible exact ih0 _ _ _ _ _ _ _ _ _ _ _)
   | (with_reducible exact ih1 _ _ _ _ _ _ _ _ _ _ _ _ _ _ _ _ _ _ _)
   | (with_reducible exact LeO.refl _)
   | (with_reducible exact LeO.none _)
   | (with_reducible refine LeO.ite ?_ ?_)
   | (with_reducible refine LeO.bind ?_ (fun _ => ?_))
theorem levels_span.mono : ∀ a0 k, LeO (levels_span.f k a0) (levels_span.f (k + 1) a0) := by
 intro a0 k
 obtain ⟨ih0, ih1⟩ := levels_span.mono_l k
 unfold levels_span.f
 repeat' first
   | (with_reducible exact ih0 _ _ _ _ _ _ _ _ _ _ _)
   | (with_reducible exact ih1 _ _ _ _ _ _ _ _ _ _ _ _ _ _ _ _ _ _ _)
   | (with_reducible exact LeO.refl _)
   | (with_reducible exact LeO.none _)
   | (with_reducible refine LeO.ite ?_ ?_)
   | (with_reducible refine LeO.bind ?_ (fun _ => ?_))
set_option maxHeartbeats 8000000 in
set_option maxRecDepth 100000 in
theorem levels_span.calls (k : Nat) (A0 : Option Addr) (c0 : Nat) (l0 : List (S38)) (r1 : Int) (r2 : Int) (r3 : Bool) (r4 : Int) (r5 : ByteArray) (r6 : Bool) (r7 : Int) (r8 : ByteArray) (w : World) (hr0 : Kd.C k38 w A0 l0.length l0) (hc0 : l0.length ≤ c0) (h : levels_span.f k l0 = some (r1, r2, r3, r4, r5, r6, r7, r8)) :
  Calls Try.prog 26 #[.slice A0 l0.length c0] w fun e w' => e = .returned (.agg #[.int .i64 r1, .int .i64 r2, .bool r3, .int .i64 r4, .string r5, .bool r6, .int .i64 r7, .string r8]) ∧ Below w.heap.size w w' := by
 have hu38 := Try.underlying38
 have hu36 := Try.underlying36
 have HR0 := Aside0.mk hr0
 have HC0 := Aside0.mk hc0
 clear hr0 hc0
 have HB := Aside0.mk (Below.refl w.heap.size w)
 have H : (if 0 < (l0.length : Int) then (if 1 ≤ (l0.length : Int) then ((some (l0.drop 1 : List (S38))).bind fun y125 => (levels_span.l0 k y125 (y125.length : Int) 0 ((rd_T38 l0 0).f0) ((rd_T38 l0 0).f1) ((rd_T38 l0 0).f2.f0) ((rd_T38 l0 0).f2.f1) ((rd_T38 l0 0).f2.f2) ((rd_T38 l0 0).f3.f0) ((rd_T38 l0 0).f3.f1) ((rd_T38 l0 0).f3.f2))) else (none)) else (none)) = some (r1, r2, r3, r4, r5, r6, r7, r8) := h
 clear h
 by_cases c2 : 0 < (l0.length : Int)
 ·rw [if_pos c2] at H
  have c2b0 : decide (0 < (l0.length : Int)) = true := decide_eq_true c2
  have c2b1 : decide (0 < l0.length) = true := decide_eq_true (by omega)
  clear c2
  by_cases c3 : 1 ≤ (l0.length : Int)
  ·rw [if_pos c3] at H
   have c3b0 := eq_true c3
   have c3b1 : decide (1 ≤ (l0.length : Int)) = true := decide_eq_true c3
   clear c3
   obtain ⟨y125, hy125⟩ : ∃ y_ : List (S38), y_ = (l0.drop 1) := ⟨_, rfl⟩
   replace H : (levels_span.l0 k y125 (y125.length : Int) 0 ((rd_T38 l0 0).f0) ((rd_T38 l0 0).f1) ((rd_T38 l0 0).f2.f0) ((rd_T38 l0 0).f2.f1) ((rd_T38 l0 0).f2.f2) ((rd_T38 l0 0).f3.f0) ((rd_T38 l0 0).f3.f1) ((rd_T38 l0 0).f3.f2)) = some (r1, r2, r3, r4, r5, r6, r7, r8) := by first | (rw [hy125]; with_reducible exact H) | (have H2_ := (Option.bind_some _ _).symm.trans H; rw [hy125]; with_reducible exact H2_) | (have H2_ := (Option.bind_some _ _).symm.trans H; with_reducible exact H2_) | with_reducible exact H | (rw [hy125]; exact H) | exact H
   have Ny125 := Aside0.mk hy125
   clear hy125
   have H' := Aside0.mk H
   clear H
   go_enter Try.func26, Try.ntmps26
   go_wp2_with (first | ((with_reducible refine gate_dst (N := 2) rfl ?_); refine box_event ?hg (N := 2) ?hd (cs := #[.int .i64 0, .int .i64 0, .bool false, .int .i64 0, .string (⟨#[]⟩ : ByteArray), .bool false, .int .i64 0, .string (⟨#[]⟩ : ByteArray)]) (t := 38) ?hr ?_; (case hd => rfl); (case hg => rfl); (case hr => first | (go_simp; done) | (go_simp; rfl)); intro gb122 hg w4 hbox hb; have n0_ := Aside0.mk (below_step (by with_reducible repeat first | exact HB.out | apply below_alloc | apply pw_below_drewN | apply below_drew1) hb); have n1_ := Aside0.mk (hbox); have n2_ := Aside0.mk ((by rw [hg]; exact (below_size (by with_reducible repeat first | exact HB.out | apply below_alloc | apply pw_below_drewN | apply below_drew1)) : w.heap.size ≤ gb122)); have n3_ := Aside0.mk ((by rw [hg]; exact (below_size (by with_reducible repeat first | exact HB.out | apply below_alloc | apply pw_below_drewN | apply below_drew1)) : w.heap.size ≤ gb122)); clear HB; have HB := n0_; have BK122 := n1_; have GW122 := n2_; have GE122 := n3_; clear n0_ n1_ n2_ n3_; clear hb hbox hg; have p123 : 0 ≤ (0 : Int) := (by omega); have q123 : 0 < (l0.length : Int) := of_decide_eq_true (by with_reducible assumption); obtain ⟨ad123, e123, hx123_0, hx123_1, hx123_2, hx123_3, hx123_4, hx123_5, hx123_6, hx123_7⟩ := at_T38 HR0.out 0 p123 q123; cases e123; have qi123 : (0 < l0.length) = True := eq_true (by omega); (try rw [show ((0 : Int)).toNat = 0 from rfl] at hx123_0); (try rw [show 0 * 8 = 0 from rfl] at hx123_0); (try rw [Addr.add_zero'] at hx123_0); (try rw [show ((0 : Int)).toNat = 0 from rfl] at hx123_1); (try rw [show 0 * 8 = 0 from rfl] at hx123_1); (try rw [Addr.add_zero'] at hx123_1); (try rw [show ((0 : Int)).toNat = 0 from rfl] at hx123_2); (try rw [show 0 * 8 = 0 from rfl] at hx123_2); (try rw [Addr.add_zero'] at hx123_2); (try rw [show ((0 : Int)).toNat = 0 from rfl] at hx123_3); (try rw [show 0 * 8 = 0 from rfl] at hx123_3); (try rw [Addr.add_zero'] at hx123_3); (try rw [show ((0 : Int)).toNat = 0 from rfl] at hx123_4); (try rw [show 0 * 8 = 0 from rfl] at hx123_4); (try rw [Addr.add_zero'] at hx123_4); (try rw [show ((0 : Int)).toNat = 0 from rfl] at hx123_5); (try rw [show 0 * 8 = 0 from rfl] at hx123_5); (try rw [Addr.add_zero'] at hx123_5); (try rw [show ((0 : Int)).toNat = 0 from rfl] at hx123_6); (try rw [show 0 * 8 = 0 from rfl] at hx123_6); (try rw [Addr.add_zero'] at hx123_6); (try rw [show ((0 : Int)).toNat = 0 from rfl] at hx123_7); (try rw [show 0 * 8 = 0 from rfl] at hx123_7); (try rw [Addr.add_zero'] at hx123_7); replace hx123_0 := pw_cell_below HB.out hx123_0; replace hx123_1 := pw_cell_below HB.out hx123_1; replace hx123_2 := pw_cell_below HB.out hx123_2; replace hx123_3 := pw_cell_below HB.out hx123_3; replace hx123_4 := pw_cell_below HB.out hx123_4; replace hx123_5 := pw_cell_below HB.out hx123_5; replace hx123_6 := pw_cell_below HB.out hx123_6; replace hx123_7 := pw_cell_below HB.out hx123_7; replace p123 := eq_true p123; replace q123 := eq_true q123) | ((with_reducible refine gate_dst (N := 3) rfl ?_); refine box_event ?hg (N := 3) ?hd (cs := #[.int .i64 0, .int .i64 0, .bool false, .int .i64 0, .string (⟨#[]⟩ : ByteArray), .bool false, .int .i64 0, .string (⟨#[]⟩ : ByteArray)]) (t := 38) ?hr ?_; (case hd => rfl); (case hg => rfl); (case hr => first | (go_simp; done) | (go_simp; rfl)); intro gb124 hg w5 hbox hb; have n0_ := Aside0.mk (blk_below (g := gb122) (o := .cells #[.int .i64 0, .int .i64 0, .bool false, .int .i64 0, .string (⟨#[]⟩ : ByteArray), .bool false, .int .i64 0, .string (⟨#[]⟩ : ByteArray)] 38 (0, 0)) (by (with_reducible repeat (first | refine blk_drewN ?_ _ | refine blk_drew ?_ | refine blk_alloc ?_ _)); exact BK122.out) hb); have n1_ := Aside0.mk (below_step (by with_reducible repeat first | exact HB.out | apply below_alloc | apply pw_below_drewN | apply below_drew1 | refine below_set ?_ GE122.out) hb); have n2_ := Aside0.mk (hbox); have n3_ := Aside0.mk ((by rw [hg]; exact (below_size (by with_reducible repeat first | exact HB.out | apply below_alloc | apply pw_below_drewN | apply below_drew1 | refine below_set ?_ GE122.out)) : w.heap.size ≤ gb124)); have n4_ := Aside0.mk ((by rw [hg]; exact (below_size (by with_reducible repeat first | exact HB.out | apply below_alloc | apply pw_below_drewN | apply below_drew1 | refine below_set ?_ GE122.out)) : w.heap.size ≤ gb124)); have n5_ := Aside0.mk ((by rw [hg]; exact Nat.ne_of_lt (blk_lt (g := gb122) (o := .cells #[.int .i64 0, .int .i64 0, .bool false, .int .i64 0, .string (⟨#[]⟩ : ByteArray), .bool false, .int .i64 0, .string (⟨#[]⟩ : ByteArray)] 38 (0, 0)) (by (with_reducible repeat (first | refine blk_drewN ?_ _ | refine blk_drew ?_ | refine blk_alloc ?_ _)); exact BK122.out)) : gb122 ≠ gb124)); have n6_ := Aside0.mk ((by rw [hg]; exact Nat.ne_of_gt (blk_lt (g := gb122) (o := .cells #[.int .i64 0, .int .i64 0, .bool false, .int .i64 0, .string (⟨#[]⟩ : ByteArray), .bool false, .int .i64 0, .string (⟨#[]⟩ : ByteArray)] 38 (0, 0)) (by (with_reducible repeat (first | refine blk_drewN ?_ _ | refine blk_drew ?_ | refine blk_alloc ?_ _)); exact BK122.out)) : gb124 ≠ gb122)); clear BK122; clear HB; have BK122 := n0_; have HB := n1_; have BK124 := n2_; have GW124 := n3_; have GE124 := n4_; have NB122_124 := n5_; have NB124_122 := n6_; clear n0_ n1_ n2_ n3_ n4_ n5_ n6_; clear hb hbox hg; have hnb6 := NB124_122.out; have hnc6 := NB122_124.out; obtain ⟨hcz7_0, hcz7_1, hcz7_2, hcz7_3, hcz7_4, hcz7_5, hcz7_6, hcz7_7⟩ := bc8 BK124.out; obtain ⟨hfz7_0, hfz7_1, hfz7_2, hfz7_3, hfz7_4, hfz7_5, hfz7_6, hfz7_7⟩ := bf8 BK124.out) | ((with_reducible refine gate_store (t := 38) (p := 3) rfl ?_); refine store_event (t := 38) (p := 3) (v := ?vo_w8) (w1 := ((((((((w5.setCell ⟨gb124, 0, none⟩ (.int .i64 ((rd_T38 l0 0).f0))).setCell ⟨gb124, 1, none⟩ (.int .i64 ((rd_T38 l0 0).f1))).setCell ⟨gb124, 2, none⟩ (.bool ((rd_T38 l0 0).f2.f0))).setCell ⟨gb124, 3, none⟩ (.int .i64 ((rd_T38 l0 0).f2.f1))).setCell ⟨gb124, 4, none⟩ (.string ((rd_T38 l0 0).f2.f2))).setCell ⟨gb124, 5, none⟩ (.bool ((rd_T38 l0 0).f3.f0))).setCell ⟨gb124, 6, none⟩ (.int .i64 ((rd_T38 l0 0).f3.f1))).setCell ⟨gb124, 7, none⟩ (.string ((rd_T38 l0 0).f3.f2)))) ?hg ?ho ?hn ?hr ?_; (case ho => rfl); (case hg => rfl); (case hn => rfl); (case hr => first | (go_simp; done) | (go_simp; rfl)); intro w8 hw; have n0_ : Aside0 (w8.heap[gb122]? = some (.cells #[.int .i64 0, .int .i64 0, .bool false, .int .i64 0, .string (⟨#[]⟩ : ByteArray), .bool false, .int .i64 0, .string (⟨#[]⟩ : ByteArray)] 38 (0, 0))) := ⟨(by rw [hw]; exact (by (iterate 8 (refine blk_far ?_ NB122_124.out _)); (with_reducible repeat (first | refine blk_drewN ?_ _ | refine blk_drew ?_ | refine blk_alloc ?_ _)); exact BK122.out))⟩; have n1_ : Aside0 (w8.heap[gb124]? = some (.cells #[.int .i64 ((rd_T38 l0 0).f0), .int .i64 ((rd_T38 l0 0).f1), .bool ((rd_T38 l0 0).f2.f0), .int .i64 ((rd_T38 l0 0).f2.f1), .string ((rd_T38 l0 0).f2.f2), .bool ((rd_T38 l0 0).f3.f0), .int .i64 ((rd_T38 l0 0).f3.f1), .string ((rd_T38 l0 0).f3.f2)] 38 (0, 0))) := ⟨(by rw [hw]; exact (by refine blk_put (cs := #[.int .i64 ((rd_T38 l0 0).f0), .int .i64 ((rd_T38 l0 0).f1), .bool ((rd_T38 l0 0).f2.f0), .int .i64 ((rd_T38 l0 0).f2.f1), .string ((rd_T38 l0 0).f2.f2), .bool ((rd_T38 l0 0).f3.f0), .int .i64 ((rd_T38 l0 0).f3.f1), .string (⟨#[]⟩ : ByteArray)]) ?_ 7 _ rfl; refine blk_put (cs := #[.int .i64 ((rd_T38 l0 0).f0), .int .i64 ((rd_T38 l0 0).f1), .bool ((rd_T38 l0 0).f2.f0), .int .i64 ((rd_T38 l0 0).f2.f1), .string ((rd_T38 l0 0).f2.f2), .bool ((rd_T38 l0 0).f3.f0), .int .i64 0, .string (⟨#[]⟩ : ByteArray)]) ?_ 6 _ rfl; refine blk_put (cs := #[.int .i64 ((rd_T38 l0 0).f0), .int .i64 ((rd_T38 l0 0).f1), .bool ((rd_T38 l0 0).f2.f0), .int .i64 ((rd_T38 l0 0).f2.f1), .string ((rd_T38 l0 0).f2.f2), .bool false, .int .i64 0, .string (⟨#[]⟩ : ByteArray)]) ?_ 5 _ rfl; refine blk_put (cs := #[.int .i64 ((rd_T38 l0 0).f0), .int .i64 ((rd_T38 l0 0).f1), .bool ((rd_T38 l0 0).f2.f0), .int .i64 ((rd_T38 l0 0).f2.f1), .string (⟨#[]⟩ : ByteArray), .bool false, .int .i64 0, .string (⟨#[]⟩ : ByteArray)]) ?_ 4 _ rfl; refine blk_put (cs := #[.int .i64 ((rd_T38 l0 0).f0), .int .i64 ((rd_T38 l0 0).f1), .bool ((rd_T38 l0 0).f2.f0), .int .i64 0, .string (⟨#[]⟩ : ByteArray), .bool false, .int .i64 0, .string (⟨#[]⟩ : ByteArray)]) ?_ 3 _ rfl; refine blk_put (cs := #[.int .i64 ((rd_T38 l0 0).f0), .int .i64 ((rd_T38 l0 0).f1), .bool false, .int .i64 0, .string (⟨#[]⟩ : ByteArray), .bool false, .int .i64 0, .string (⟨#[]⟩ : ByteArray)]) ?_ 2 _ rfl; refine blk_put (cs := #[.int .i64 ((rd_T38 l0 0).f0), .int .i64 0, .bool false, .int .i64 0, .string (⟨#[]⟩ : ByteArray), .bool false, .int .i64 0, .string (⟨#[]⟩ : ByteArray)]) ?_ 1 _ rfl; refine blk_put (cs := #[.int .i64 0, .int .i64 0, .bool false, .int .i64 0, .string (⟨#[]⟩ : ByteArray), .bool false, .int .i64 0, .string (⟨#[]⟩ : ByteArray)]) ?_ 0 _ rfl; (with_reducible repeat (first | refine blk_drewN ?_ _ | refine blk_drew ?_ | refine blk_alloc ?_ _)); exact BK124.out))⟩; have n2_ : Aside0 (Below w.heap.size w w8) := ⟨(by rw [hw]; exact (by with_reducible repeat first | exact HB.out | apply below_alloc | apply pw_below_drewN | apply below_drew1 | refine below_set ?_ GE122.out | refine below_set ?_ GE124.out))⟩; clear hw; clear BK122; clear BK124; clear HB; have BK122 := n0_; have BK124 := n1_; have HB := n2_; clear n0_ n1_ n2_; have q9 : (1 : Int) ≤ ((l0.length : Int) : Int) := of_decide_eq_true (by with_reducible assumption); obtain ⟨i09, hi09, _, hsz9, _⟩ := info_parts info38; have hroom9 : l0.length ≤ c0 := HC0.out; have hC9 : Kd.C k38 _ (some ad123) l0.length l0 := HR0.out; have hcut9 := cut_from (P := Try.prog) 22 38 .i64 Try.underlying22 hi09 8 hsz9 (some ad123) l0.length c0 1 (by omega) q9; have hr9 := Kd.C_drop (m := (1 : Int).toNat) (c := c0) hC9 (by omega) hroom9; obtain ⟨A9, hA9⟩ : ∃ A1, A1 = (if c0 = (1 : Int).toNat then (some ad123) else ((some ad123) : Option Addr).map (·.add ((1 : Int).toNat * 8))) := ⟨_, rfl⟩; obtain ⟨c9, hc9⟩ : ∃ c1, c1 = c0 - (1 : Int).toNat := ⟨_, rfl⟩; have hy9 : y125.length = l0.length - (1 : Int).toNat := (by rw [Ny125.out, List.length_drop] <;> omega); rw [show (l0).drop (1 : Int).toNat = y125 from Ny125.out.symm] at hr9; replace hr9 : Kd.C k38 _ A9 y125.length y125 := (by rw [hA9]; exact hr9); rw [← hy9, ← hA9, ← hc9] at hcut9; have HR128 := Aside0.mk hr9; have HC128 := Aside0.mk (show y125.length ≤ c9 from by rw [hy9, hc9]; exact Nat.sub_le_sub_right hroom9 _); clear hr9 hC9 hroom9 hi09 hsz9 hc9; have KY9 := Aside0.mk hy9; have KA9 := Aside0.mk hA9; clear hy9 hA9; replace q9 := eq_true q9))
   go_loopg [12] k (fun kq v12 w' => ∃ (x12_1 : Int) (x125002_1 : Bool) (x125003_1 : Int) (x125004_1 : ByteArray) (x125005_1 : Bool) (x125006_1 : Int) (x125007_1 : ByteArray), v12 = .int .i64 x12_1 ∧ Aside0 (levels_span.l0 kq y125 (y125.length : Int) x12_1 ((rd_T38 l0 0).f0) ((rd_T38 l0 0).f1) x125002_1 x125003_1 x125004_1 x125005_1 x125006_1 x125007_1 = some (r1, r2, r3, r4, r5, r6, r7, r8)) ∧ Aside0 (kq ≤ k) ∧ Aside0 (w'.heap[gb122]? = some (.cells #[.int .i64 0, .int .i64 0, .bool false, .int .i64 0, .string (⟨#[]⟩ : ByteArray), .bool false, .int .i64 0, .string (⟨#[]⟩ : ByteArray)] 38 (0, 0))) ∧ Aside0 (w'.heap[gb124]? = some (.cells #[.int .i64 ((rd_T38 l0 0).f0), .int .i64 ((rd_T38 l0 0).f1), .bool x125002_1, .int .i64 x125003_1, .string x125004_1, .bool x125005_1, .int .i64 x125006_1, .string x125007_1] 38 (0, 0))) ∧ Aside0 (Below w.heap.size w w'))
   case atStart => exact ⟨(0), ((rd_T38 l0 0).f2.f0), ((rd_T38 l0 0).f2.f1), ((rd_T38 l0 0).f2.f2), ((rd_T38 l0 0).f3.f0), ((rd_T38 l0 0).f3.f1), ((rd_T38 l0 0).f3.f2), (by first | rfl | (simp; done) | (simp [*]; done)), H', ⟨Nat.le_refl _⟩, ⟨by (with_reducible repeat (first | refine blk_drewN ?_ _ | refine blk_drew ?_ | refine blk_alloc ?_ _)); exact BK122.out⟩, ⟨by (with_reducible repeat (first | refine blk_drewN ?_ _ | refine blk_drew ?_ | refine blk_alloc ?_ _)); exact BK124.out⟩, ⟨by repeat (first | (with_reducible first | exact HB.out | apply below_alloc | apply pw_below_drewN | apply below_drew1 | refine below_set ?_ GE122.out | refine below_set ?_ GE124.out) | exact HB.out)⟩⟩
   case round =>
    clear H'
    try clear c1
    try clear p1
    try clear q1
    try clear hx1
    try clear qi1
    try clear c2
    try clear c2b0
    try clear c2b1
    try clear p2
    try clear c3
    try clear c3b0
    try clear c3b1
    try clear c6
    try clear c9
    try clear q9
    try clear hcz7_0 hcz7_1 hcz7_2 hcz7_3 hcz7_4 hcz7_5 hcz7_6 hcz7_7
    try clear hfz7_0 hfz7_1 hfz7_2 hfz7_3 hfz7_4 hfz7_5 hfz7_6 hfz7_7
    try clear hx123_0 hx123_1 hx123_2 hx123_3 hx123_4 hx123_5 hx123_6 hx123_7
    try clear p123
    try clear q123
    try clear q9
    obtain ⟨x12_1, x125002_1, x125003_1, x125004_1, x125005_1, x125006_1, x125007_1, rfl, HA, HK1, BK122, BK124, HB⟩ := hrel
    cases gk with
    | zero => exact absurd HA.out (by simp [levels_span.l0])
    | succ k1 =>
     have H := HA.out
     clear HA
     simp only [levels_span.l0] at H
     by_cases c10 : x12_1 < (y125.length : Int)
     ·rw [if_pos c10] at H
      have c10b0 : decide (x12_1 < (y125.length : Int)) = true := decide_eq_true c10
      clear c10
      by_cases c11 : 0 ≤ x12_1
      ·rw [if_pos c11] at H
       have c11b0 : decide (0 ≤ x12_1) = true := decide_eq_true c11
       clear c11
       by_cases c12 : x12_1 < (y125.length : Int)
       ·rw [if_pos c12] at H
        have c12b0 : decide (x12_1 < (y125.length : Int)) = true := decide_eq_true c12
        clear c12
        replace H := Option.bind_eq_some_iff.mp H
        obtain ⟨t131, A130, H⟩ := H
        replace H : (if t131 < 0 then (levels_span.j1 k1 y125 (y125.length : Int) x12_1 ((rd_T38 l0 0).f0) ((rd_T38 l0 0).f1) ((rd_T38 y125 x12_1).f2.f0) ((rd_T38 y125 x12_1).f2.f1) ((rd_T38 y125 x12_1).f2.f2) x125005_1 x125006_1 x125007_1 ((rd_T38 y125 x12_1).f0) ((rd_T38 y125 x12_1).f1) ((rd_T38 y125 x12_1).f2.f0) ((rd_T38 y125 x12_1).f2.f1) ((rd_T38 y125 x12_1).f2.f2) ((rd_T38 y125 x12_1).f3.f0) ((rd_T38 y125 x12_1).f3.f1) ((rd_T38 y125 x12_1).f3.f2)) else (levels_span.j1 k1 y125 (y125.length : Int) x12_1 ((rd_T38 l0 0).f0) ((rd_T38 l0 0).f1) x125002_1 x125003_1 x125004_1 x125005_1 x125006_1 x125007_1 ((rd_T38 y125 x12_1).f0) ((rd_T38 y125 x12_1).f1) ((rd_T38 y125 x12_1).f2.f0) ((rd_T38 y125 x12_1).f2.f1) ((rd_T38 y125 x12_1).f2.f2) ((rd_T38 y125 x12_1).f3.f0) ((rd_T38 y125 x12_1).f3.f1) ((rd_T38 y125 x12_1).f3.f2))) = some (r1, r2, r3, r4, r5, r6, r7, r8) := H
        have A13 := Aside0.mk A130
        clear A130
        have HC14 := Aside0.mk H
        clear H
        have p129 : 0 ≤ (x12_1 : Int) := of_decide_eq_true (by with_reducible assumption)
        have q129 : x12_1 < (y125.length : Int) := of_decide_eq_true (by with_reducible assumption)
        obtain ⟨ad129, e129, hx129_0, hx129_1, hx129_2, hx129_3, hx129_4, hx129_5, hx129_6, hx129_7⟩ := at_T38 HR128.out x12_1 p129 q129
        cases e129
        replace hx129_0 := pw_cell_below HB.out hx129_0
        replace hx129_1 := pw_cell_below HB.out hx129_1
        replace hx129_2 := pw_cell_below HB.out hx129_2
        replace hx129_3 := pw_cell_below HB.out hx129_3
        replace hx129_4 := pw_cell_below HB.out hx129_4
        replace hx129_5 := pw_cell_below HB.out hx129_5
        replace hx129_6 := pw_cell_below HB.out hx129_6
        replace hx129_7 := pw_cell_below HB.out hx129_7
        replace p129 := eq_true p129
        replace q129 := eq_true q129
        go_upto_if 21 with (first | ((with_reducible refine gate_dst (N := 5) rfl ?_); refine box_event ?hg (N := 5) ?hd (cs := #[.int .i64 0, .int .i64 0, .bool false, .int .i64 0, .string (⟨#[]⟩ : ByteArray), .bool false, .int .i64 0, .string (⟨#[]⟩ : ByteArray)]) (t := 38) ?hr ?_; (case hd => rfl); (case hg => rfl); (case hr => first | (go_simp; done) | (go_simp; rfl)); intro gb130 hg w15 hbox hb; have n0_ := Aside0.mk (blk_below (g := gb122) (o := .cells #[.int .i64 0, .int .i64 0, .bool false, .int .i64 0, .string (⟨#[]⟩ : ByteArray), .bool false, .int .i64 0, .string (⟨#[]⟩ : ByteArray)] 38 (0, 0)) (by (with_reducible repeat (first | refine blk_drewN ?_ _ | refine blk_drew ?_ | refine blk_alloc ?_ _)); exact BK122.out) hb); have n1_ := Aside0.mk (blk_below (g := gb124) (o := .cells #[.int .i64 ((rd_T38 l0 0).f0), .int .i64 ((rd_T38 l0 0).f1), .bool x125002_1, .int .i64 x125003_1, .string x125004_1, .bool x125005_1, .int .i64 x125006_1, .string x125007_1] 38 (0, 0)) (by (with_reducible repeat (first | refine blk_drewN ?_ _ | refine blk_drew ?_ | refine blk_alloc ?_ _)); exact BK124.out) hb); have n2_ := Aside0.mk (below_step (by with_reducible repeat first | exact HB.out | apply below_alloc | apply pw_below_drewN | apply below_drew1 | refine below_set ?_ GE122.out | refine below_set ?_ GE124.out) hb); have n3_ := Aside0.mk (hbox); have n4_ := Aside0.mk ((by rw [hg]; exact (below_size (by with_reducible repeat first | exact HB.out | apply below_alloc | apply pw_below_drewN | apply below_drew1 | refine below_set ?_ GE122.out | refine below_set ?_ GE124.out)) : w.heap.size ≤ gb130)); have n5_ := Aside0.mk ((by rw [hg]; exact (below_size (by with_reducible repeat first | exact HB.out | apply below_alloc | apply pw_below_drewN | apply below_drew1 | refine below_set ?_ GE122.out | refine below_set ?_ GE124.out)) : w.heap.size ≤ gb130)); have n6_ := Aside0.mk ((by rw [hg]; exact Nat.ne_of_lt (blk_lt (g := gb122) (o := .cells #[.int .i64 0, .int .i64 0, .bool false, .int .i64 0, .string (⟨#[]⟩ : ByteArray), .bool false, .int .i64 0, .string (⟨#[]⟩ : ByteArray)] 38 (0, 0)) (by (with_reducible repeat (first | refine blk_drewN ?_ _ | refine blk_drew ?_ | refine blk_alloc ?_ _)); exact BK122.out)) : gb122 ≠ gb130)); have n7_ := Aside0.mk ((by rw [hg]; exact Nat.ne_of_gt (blk_lt (g := gb122) (o := .cells #[.int .i64 0, .int .i64 0, .bool false, .int .i64 0, .string (⟨#[]⟩ : ByteArray), .bool false, .int .i64 0, .string (⟨#[]⟩ : ByteArray)] 38 (0, 0)) (by (with_reducible repeat (first | refine blk_drewN ?_ _ | refine blk_drew ?_ | refine blk_alloc ?_ _)); exact BK122.out)) : gb130 ≠ gb122)); have n8_ := Aside0.mk ((by rw [hg]; exact Nat.ne_of_lt (blk_lt (g := gb124) (o := .cells #[.int .i64 ((rd_T38 l0 0).f0), .int .i64 ((rd_T38 l0 0).f1), .bool x125002_1, .int .i64 x125003_1, .string x125004_1, .bool x125005_1, .int .i64 x125006_1, .string x125007_1] 38 (0, 0)) (by (with_reducible repeat (first | refine blk_drewN ?_ _ | refine blk_drew ?_ | refine blk_alloc ?_ _)); exact BK124.out)) : gb124 ≠ gb130)); have n9_ := Aside0.mk ((by rw [hg]; exact Nat.ne_of_gt (blk_lt (g := gb124) (o := .cells #[.int .i64 ((rd_T38 l0 0).f0), .int .i64 ((rd_T38 l0 0).f1), .bool x125002_1, .int .i64 x125003_1, .string x125004_1, .bool x125005_1, .int .i64 x125006_1, .string x125007_1] 38 (0, 0)) (by (with_reducible repeat (first | refine blk_drewN ?_ _ | refine blk_drew ?_ | refine blk_alloc ?_ _)); exact BK124.out)) : gb130 ≠ gb124)); clear BK122; clear BK124; clear HB; have BK122 := n0_; have BK124 := n1_; have HB := n2_; have BK130 := n3_; have GW130 := n4_; have GE130 := n5_; have NB122_130 := n6_; have NB130_122 := n7_; have NB124_130 := n8_; have NB130_124 := n9_; clear n0_ n1_ n2_ n3_ n4_ n5_ n6_ n7_ n8_ n9_; clear hb hbox hg; have hnb16 := NB130_122.out; have hnc16 := NB122_130.out; have hnb17 := NB130_124.out; have hnc17 := NB124_130.out; obtain ⟨hcz18_0, hcz18_1, hcz18_2, hcz18_3, hcz18_4, hcz18_5, hcz18_6, hcz18_7⟩ := bc8 BK130.out; obtain ⟨hfz18_0, hfz18_1, hfz18_2, hfz18_3, hfz18_4, hfz18_5, hfz18_6, hfz18_7⟩ := bf8 BK130.out; have hnb19 := NB124_122.out; have hnc19 := NB122_124.out; obtain ⟨hcz20_0, hcz20_1, hcz20_2, hcz20_3, hcz20_4, hcz20_5, hcz20_6, hcz20_7⟩ := bc8 BK124.out; obtain ⟨hfz20_0, hfz20_1, hfz20_2, hfz20_3, hfz20_4, hfz20_5, hfz20_6, hfz20_7⟩ := bf8 BK124.out) | ((with_reducible refine gate_callee (f := 33) rfl ?_); refine goesL_ (some 20) rfl rfl Try.func33 (by kernel_rfl) rfl #[.agg #[.bool ((rd_T38 y125 x12_1).f2.f0), .int .i64 ((rd_T38 y125 x12_1).f2.f1), .string ((rd_T38 y125 x12_1).f2.f2)], .agg #[.bool x125002_1, .int .i64 x125003_1, .string x125004_1]] rfl (by (try simp only [List.map_toArray, List.map_cons, List.map_nil]); first | done | rfl | (simp only [List.length_drop, List.length_take]; rfl)) ?_; (with_reducible refine (kinds_Compare_c.calls ((rd_T38 y125 x12_1).f2.f0) ((rd_T38 y125 x12_1).f2.f1) ((rd_T38 y125 x12_1).f2.f2) x125002_1 x125003_1 x125004_1 t131 _ A13.out).mono ?_); rintro e w21 ⟨rfl, hb⟩; refine ⟨_, rfl, ?_⟩; have n0_ := Aside0.mk (blk_below (g := gb122) (o := .cells #[.int .i64 0, .int .i64 0, .bool false, .int .i64 0, .string (⟨#[]⟩ : ByteArray), .bool false, .int .i64 0, .string (⟨#[]⟩ : ByteArray)] 38 (0, 0)) (by (iterate 8 (refine blk_far ?_ NB122_130.out _)); (with_reducible repeat (first | refine blk_drewN ?_ _ | refine blk_drew ?_ | refine blk_alloc ?_ _)); exact BK122.out) hb); have n1_ := Aside0.mk (blk_below (g := gb124) (o := .cells #[.int .i64 ((rd_T38 l0 0).f0), .int .i64 ((rd_T38 l0 0).f1), .bool x125002_1, .int .i64 x125003_1, .string x125004_1, .bool x125005_1, .int .i64 x125006_1, .string x125007_1] 38 (0, 0)) (by (iterate 8 (refine blk_far ?_ NB124_130.out _)); (with_reducible repeat (first | refine blk_drewN ?_ _ | refine blk_drew ?_ | refine blk_alloc ?_ _)); exact BK124.out) hb); have n2_ := Aside0.mk (blk_below (g := gb130) (o := .cells #[.int .i64 ((rd_T38 y125 x12_1).f0), .int .i64 ((rd_T38 y125 x12_1).f1), .bool ((rd_T38 y125 x12_1).f2.f0), .int .i64 ((rd_T38 y125 x12_1).f2.f1), .string ((rd_T38 y125 x12_1).f2.f2), .bool ((rd_T38 y125 x12_1).f3.f0), .int .i64 ((rd_T38 y125 x12_1).f3.f1), .string ((rd_T38 y125 x12_1).f3.f2)] 38 (0, 0)) (by refine blk_put (cs := #[.int .i64 ((rd_T38 y125 x12_1).f0), .int .i64 ((rd_T38 y125 x12_1).f1), .bool ((rd_T38 y125 x12_1).f2.f0), .int .i64 ((rd_T38 y125 x12_1).f2.f1), .string ((rd_T38 y125 x12_1).f2.f2), .bool ((rd_T38 y125 x12_1).f3.f0), .int .i64 ((rd_T38 y125 x12_1).f3.f1), .string (⟨#[]⟩ : ByteArray)]) ?_ 7 _ rfl; refine blk_put (cs := #[.int .i64 ((rd_T38 y125 x12_1).f0), .int .i64 ((rd_T38 y125 x12_1).f1), .bool ((rd_T38 y125 x12_1).f2.f0), .int .i64 ((rd_T38 y125 x12_1).f2.f1), .string ((rd_T38 y125 x12_1).f2.f2), .bool ((rd_T38 y125 x12_1).f3.f0), .int .i64 0, .string (⟨#[]⟩ : ByteArray)]) ?_ 6 _ rfl; refine blk_put (cs := #[.int .i64 ((rd_T38 y125 x12_1).f0), .int .i64 ((rd_T38 y125 x12_1).f1), .bool ((rd_T38 y125 x12_1).f2.f0), .int .i64 ((rd_T38 y125 x12_1).f2.f1), .string ((rd_T38 y125 x12_1).f2.f2), .bool false, .int .i64 0, .string (⟨#[]⟩ : ByteArray)]) ?_ 5 _ rfl; refine blk_put (cs := #[.int .i64 ((rd_T38 y125 x12_1).f0), .int .i64 ((rd_T38 y125 x12_1).f1), .bool ((rd_T38 y125 x12_1).f2.f0), .int .i64 ((rd_T38 y125 x12_1).f2.f1), .string (⟨#[]⟩ : ByteArray), .bool false, .int .i64 0, .string (⟨#[]⟩ : ByteArray)]) ?_ 4 _ rfl; refine blk_put (cs := #[.int .i64 ((rd_T38 y125 x12_1).f0), .int .i64 ((rd_T38 y125 x12_1).f1), .bool ((rd_T38 y125 x12_1).f2.f0), .int .i64 0, .string (⟨#[]⟩ : ByteArray), .bool false, .int .i64 0, .string (⟨#[]⟩ : ByteArray)]) ?_ 3 _ rfl; refine blk_put (cs := #[.int .i64 ((rd_T38 y125 x12_1).f0), .int .i64 ((rd_T38 y125 x12_1).f1), .bool false, .int .i64 0, .string (⟨#[]⟩ : ByteArray), .bool false, .int .i64 0, .string (⟨#[]⟩ : ByteArray)]) ?_ 2 _ rfl; refine blk_put (cs := #[.int .i64 ((rd_T38 y125 x12_1).f0), .int .i64 0, .bool false, .int .i64 0, .string (⟨#[]⟩ : ByteArray), .bool false, .int .i64 0, .string (⟨#[]⟩ : ByteArray)]) ?_ 1 _ rfl; refine blk_put (cs := #[.int .i64 0, .int .i64 0, .bool false, .int .i64 0, .string (⟨#[]⟩ : ByteArray), .bool false, .int .i64 0, .string (⟨#[]⟩ : ByteArray)]) ?_ 0 _ rfl; (with_reducible repeat (first | refine blk_drewN ?_ _ | refine blk_drew ?_ | refine blk_alloc ?_ _)); exact BK130.out) hb); have n3_ := Aside0.mk (below_step (by with_reducible repeat first | exact HB.out | apply below_alloc | apply pw_below_drewN | apply below_drew1 | refine below_set ?_ GE122.out | refine below_set ?_ GE124.out | refine below_set ?_ GE130.out) hb); clear BK122; clear BK124; clear BK130; clear HB; have BK122 := n0_; have BK124 := n1_; have BK130 := n2_; have HB := n3_; clear n0_ n1_ n2_ n3_; (try clear hb); (try clear hb2); (try clear hk); (try clear hi)))
        (try simp only [Act.put, List.setIfInBounds_toArray, List.set_cons_zero, List.set_cons_succ])
        go_cut [] (fun wc => ∃ (kq : Nat) (x125002_13 : Bool) (x125003_13 : Int) (x125004_13 : ByteArray), Aside0 (levels_span.j1 kq y125 (y125.length : Int) x12_1 ((rd_T38 l0 0).f0) ((rd_T38 l0 0).f1) x125002_13 x125003_13 x125004_13 x125005_1 x125006_1 x125007_1 ((rd_T38 y125 x12_1).f0) ((rd_T38 y125 x12_1).f1) ((rd_T38 y125 x12_1).f2.f0) ((rd_T38 y125 x12_1).f2.f1) ((rd_T38 y125 x12_1).f2.f2) ((rd_T38 y125 x12_1).f3.f0) ((rd_T38 y125 x12_1).f3.f1) ((rd_T38 y125 x12_1).f3.f2) = some (r1, r2, r3, r4, r5, r6, r7, r8)) ∧ Aside0 (kq ≤ k1) ∧ Aside0 (wc.heap[gb122]? = some (.cells #[.int .i64 0, .int .i64 0, .bool false, .int .i64 0, .string (⟨#[]⟩ : ByteArray), .bool false, .int .i64 0, .string (⟨#[]⟩ : ByteArray)] 38 (0, 0))) ∧ Aside0 (wc.heap[gb124]? = some (.cells #[.int .i64 ((rd_T38 l0 0).f0), .int .i64 ((rd_T38 l0 0).f1), .bool x125002_13, .int .i64 x125003_13, .string x125004_13, .bool x125005_1, .int .i64 x125006_1, .string x125007_1] 38 (0, 0))) ∧ Aside0 (wc.heap[gb130]? = some (.cells #[.int .i64 ((rd_T38 y125 x12_1).f0), .int .i64 ((rd_T38 y125 x12_1).f1), .bool ((rd_T38 y125 x12_1).f2.f0), .int .i64 ((rd_T38 y125 x12_1).f2.f1), .string ((rd_T38 y125 x12_1).f2.f2), .bool ((rd_T38 y125 x12_1).f3.f0), .int .i64 ((rd_T38 y125 x12_1).f3.f1), .string ((rd_T38 y125 x12_1).f3.f2)] 38 (0, 0))) ∧ Aside0 (Below w.heap.size w wc))
        case first =>
         have H := HC14.out
         clear HC14
         by_cases c22 : t131 < 0
         ·rw [if_pos c22] at H
          have c22b0 : decide (t131 < 0) = true := decide_eq_true c22
          clear c22
          (first | rw [c22b0] | (simp only [i64_w, i32_w]; rw [c22b0]) | skip)
          have H' := Aside0.mk H
          clear H
          have hnb23 := NB130_122.out
          have hnc23 := NB122_130.out
          have hnb24 := NB130_124.out
          have hnc24 := NB124_130.out
          obtain ⟨hcz25_0, hcz25_1, hcz25_2, hcz25_3, hcz25_4, hcz25_5, hcz25_6, hcz25_7⟩ := bc8 BK130.out
          obtain ⟨hfz25_0, hfz25_1, hfz25_2, hfz25_3, hfz25_4, hfz25_5, hfz25_6, hfz25_7⟩ := bf8 BK130.out
          have hnb26 := NB124_122.out
          have hnc26 := NB122_124.out
          obtain ⟨hcz27_0, hcz27_1, hcz27_2, hcz27_3, hcz27_4, hcz27_5, hcz27_6, hcz27_7⟩ := bc8 BK124.out
          obtain ⟨hfz27_0, hfz27_1, hfz27_2, hfz27_3, hfz27_4, hfz27_5, hfz27_6, hfz27_7⟩ := bf8 BK124.out
          go_wp2
          go_meet
          case rel => exact ⟨_, ((rd_T38 y125 x12_1).f2.f0), ((rd_T38 y125 x12_1).f2.f1), ((rd_T38 y125 x12_1).f2.f2), H', ⟨by have := HK1.out; first | omega | exact Nat.le_refl _⟩, ⟨by (iterate 3 (refine blk_far ?_ NB122_124.out _)); (with_reducible repeat (first | refine blk_drewN ?_ _ | refine blk_drew ?_ | refine blk_alloc ?_ _)); exact BK122.out⟩, ⟨by refine blk_put (cs := #[.int .i64 ((rd_T38 l0 0).f0), .int .i64 ((rd_T38 l0 0).f1), .bool ((rd_T38 y125 x12_1).f2.f0), .int .i64 ((rd_T38 y125 x12_1).f2.f1), .string x125004_1, .bool x125005_1, .int .i64 x125006_1, .string x125007_1]) ?_ 4 _ rfl; refine blk_put (cs := #[.int .i64 ((rd_T38 l0 0).f0), .int .i64 ((rd_T38 l0 0).f1), .bool ((rd_T38 y125 x12_1).f2.f0), .int .i64 x125003_1, .string x125004_1, .bool x125005_1, .int .i64 x125006_1, .string x125007_1]) ?_ 3 _ rfl; refine blk_put (cs := #[.int .i64 ((rd_T38 l0 0).f0), .int .i64 ((rd_T38 l0 0).f1), .bool x125002_1, .int .i64 x125003_1, .string x125004_1, .bool x125005_1, .int .i64 x125006_1, .string x125007_1]) ?_ 2 _ rfl; (with_reducible repeat (first | refine blk_drewN ?_ _ | refine blk_drew ?_ | refine blk_alloc ?_ _)); exact BK124.out⟩, ⟨by (iterate 3 (refine blk_far ?_ NB130_124.out _)); (with_reducible repeat (first | refine blk_drewN ?_ _ | refine blk_drew ?_ | refine blk_alloc ?_ _)); exact BK130.out⟩, ⟨by repeat (first | (with_reducible first | exact HB.out | apply below_alloc | apply pw_below_drewN | apply below_drew1 | refine below_set ?_ GE122.out | refine below_set ?_ GE124.out | refine below_set ?_ GE130.out) | exact HB.out)⟩⟩
         ·rw [if_neg c22] at H
          have c22b0 : decide (t131 < 0) = false := decide_eq_false c22
          clear c22
          (first | rw [c22b0] | (simp only [i64_w, i32_w]; rw [c22b0]) | skip)
          have H' := Aside0.mk H
          clear H
          go_wp2
          go_meet
          case rel => exact ⟨_, (x125002_1), (x125003_1), (x125004_1), H', ⟨by have := HK1.out; first | omega | exact Nat.le_refl _⟩, ⟨by (with_reducible repeat (first | refine blk_drewN ?_ _ | refine blk_drew ?_ | refine blk_alloc ?_ _)); exact BK122.out⟩, ⟨by (with_reducible repeat (first | refine blk_drewN ?_ _ | refine blk_drew ?_ | refine blk_alloc ?_ _)); exact BK124.out⟩, ⟨by (with_reducible repeat (first | refine blk_drewN ?_ _ | refine blk_drew ?_ | refine blk_alloc ?_ _)); exact BK130.out⟩, ⟨by repeat (first | (with_reducible first | exact HB.out | apply below_alloc | apply pw_below_drewN | apply below_drew1 | refine below_set ?_ GE122.out | refine below_set ?_ GE124.out | refine below_set ?_ GE130.out) | exact HB.out)⟩⟩
        case rest =>
         clear HC14
         try clear c1
         try clear p1
         try clear q1
         try clear hx1
         try clear qi1
         try clear c2
         try clear c2b0
         try clear c2b1
         try clear p2
         try clear c3
         try clear c3b0
         try clear c3b1
         try clear c6
         try clear c9
         try clear q9
         try clear c10
         try clear c10b0
         try clear c11
         try clear c11b0
         try clear c12
         try clear c12b0
         try clear p12
         try clear q12
         try clear hx12
         try clear qi12
         try clear c16
         try clear c17
         try clear c19
         try clear c22
         try clear c22b0
         try clear c23
         try clear c24
         try clear c26
         try clear hcz18_0 hcz18_1 hcz18_2 hcz18_3 hcz18_4 hcz18_5 hcz18_6 hcz18_7
         try clear hcz20_0 hcz20_1 hcz20_2 hcz20_3 hcz20_4 hcz20_5 hcz20_6 hcz20_7
         try clear hcz25_0 hcz25_1 hcz25_2 hcz25_3 hcz25_4 hcz25_5 hcz25_6 hcz25_7
         try clear hcz27_0 hcz27_1 hcz27_2 hcz27_3 hcz27_4 hcz27_5 hcz27_6 hcz27_7
         try clear hcz7_0 hcz7_1 hcz7_2 hcz7_3 hcz7_4 hcz7_5 hcz7_6 hcz7_7
         try clear hfz18_0 hfz18_1 hfz18_2 hfz18_3 hfz18_4 hfz18_5 hfz18_6 hfz18_7
         try clear hfz20_0 hfz20_1 hfz20_2 hfz20_3 hfz20_4 hfz20_5 hfz20_6 hfz20_7
         try clear hfz25_0 hfz25_1 hfz25_2 hfz25_3 hfz25_4 hfz25_5 hfz25_6 hfz25_7
         try clear hfz27_0 hfz27_1 hfz27_2 hfz27_3 hfz27_4 hfz27_5 hfz27_6 hfz27_7
         try clear hfz7_0 hfz7_1 hfz7_2 hfz7_3 hfz7_4 hfz7_5 hfz7_6 hfz7_7
         try clear hx123_0 hx123_1 hx123_2 hx123_3 hx123_4 hx123_5 hx123_6 hx123_7
         try clear hx129_0 hx129_1 hx129_2 hx129_3 hx129_4 hx129_5 hx129_6 hx129_7
         try clear p1
         try clear p123
         try clear p129
         try clear p2
         try clear q1
         try clear q123
         try clear q129
         try clear q9
         obtain ⟨kq, x125002_13, x125003_13, x125004_13, HA, HJ13, BK122, BK124, BK130, HB⟩ := hcut
         cases kq with
         | zero => exact absurd HA.out (by simp [levels_span.j1])
         | succ kj13 =>
          have H := HA.out
          clear HA
          simp only [levels_span.j1] at H
          replace H := Option.bind_eq_some_iff.mp H
          obtain ⟨t132, A280, H⟩ := H
          replace H : (if t132 > 0 then (levels_span.l0 kj13 y125 (y125.length : Int) (wrap64 (x12_1 + 1)) ((rd_T38 l0 0).f0) ((rd_T38 l0 0).f1) x125002_13 x125003_13 x125004_13 ((rd_T38 y125 x12_1).f3.f0) ((rd_T38 y125 x12_1).f3.f1) ((rd_T38 y125 x12_1).f3.f2)) else (levels_span.l0 kj13 y125 (y125.length : Int) (wrap64 (x12_1 + 1)) ((rd_T38 l0 0).f0) ((rd_T38 l0 0).f1) x125002_13 x125003_13 x125004_13 x125005_1 x125006_1 x125007_1)) = some (r1, r2, r3, r4, r5, r6, r7, r8) := H
          have A28 := Aside0.mk A280
          clear A280
          by_cases c29 : t132 > 0
          ·rw [if_pos c29] at H
           have c29b0 : decide (0 < t132) = true := decide_eq_true c29
           clear c29
           have H' := Aside0.mk H
           clear H
           have hnb30 := NB130_122.out
           have hnc30 := NB122_130.out
           have hnb31 := NB130_124.out
           have hnc31 := NB124_130.out
           obtain ⟨hcz32_0, hcz32_1, hcz32_2, hcz32_3, hcz32_4, hcz32_5, hcz32_6, hcz32_7⟩ := bc8 BK130.out
           obtain ⟨hfz32_0, hfz32_1, hfz32_2, hfz32_3, hfz32_4, hfz32_5, hfz32_6, hfz32_7⟩ := bf8 BK130.out
           have hnb33 := NB124_122.out
           have hnc33 := NB122_124.out
           obtain ⟨hcz34_0, hcz34_1, hcz34_2, hcz34_3, hcz34_4, hcz34_5, hcz34_6, hcz34_7⟩ := bc8 BK124.out
           obtain ⟨hfz34_0, hfz34_1, hfz34_2, hfz34_3, hfz34_4, hfz34_5, hfz34_6, hfz34_7⟩ := bf8 BK124.out
           go_wp2_with (first | ((with_reducible refine gate_callee (f := 33) rfl ?_); refine goesL_ (some 29) rfl rfl Try.func33 (by kernel_rfl) rfl #[.agg #[.bool ((rd_T38 y125 x12_1).f3.f0), .int .i64 ((rd_T38 y125 x12_1).f3.f1), .string ((rd_T38 y125 x12_1).f3.f2)], .agg #[.bool x125005_1, .int .i64 x125006_1, .string x125007_1]] rfl (by (try simp only [List.map_toArray, List.map_cons, List.map_nil]); first | done | rfl | (simp only [List.length_drop, List.length_take]; rfl)) ?_; (with_reducible refine (kinds_Compare_c.calls ((rd_T38 y125 x12_1).f3.f0) ((rd_T38 y125 x12_1).f3.f1) ((rd_T38 y125 x12_1).f3.f2) x125005_1 x125006_1 x125007_1 t132 _ A28.out).mono ?_); rintro e w35 ⟨rfl, hb⟩; refine ⟨_, rfl, ?_⟩; have n0_ := Aside0.mk (blk_below (g := gb122) (o := .cells #[.int .i64 0, .int .i64 0, .bool false, .int .i64 0, .string (⟨#[]⟩ : ByteArray), .bool false, .int .i64 0, .string (⟨#[]⟩ : ByteArray)] 38 (0, 0)) (by (with_reducible repeat (first | refine blk_drewN ?_ _ | refine blk_drew ?_ | refine blk_alloc ?_ _)); exact BK122.out) hb); have n1_ := Aside0.mk (blk_below (g := gb124) (o := .cells #[.int .i64 ((rd_T38 l0 0).f0), .int .i64 ((rd_T38 l0 0).f1), .bool x125002_13, .int .i64 x125003_13, .string x125004_13, .bool x125005_1, .int .i64 x125006_1, .string x125007_1] 38 (0, 0)) (by (with_reducible repeat (first | refine blk_drewN ?_ _ | refine blk_drew ?_ | refine blk_alloc ?_ _)); exact BK124.out) hb); have n2_ := Aside0.mk (blk_below (g := gb130) (o := .cells #[.int .i64 ((rd_T38 y125 x12_1).f0), .int .i64 ((rd_T38 y125 x12_1).f1), .bool ((rd_T38 y125 x12_1).f2.f0), .int .i64 ((rd_T38 y125 x12_1).f2.f1), .string ((rd_T38 y125 x12_1).f2.f2), .bool ((rd_T38 y125 x12_1).f3.f0), .int .i64 ((rd_T38 y125 x12_1).f3.f1), .string ((rd_T38 y125 x12_1).f3.f2)] 38 (0, 0)) (by (with_reducible repeat (first | refine blk_drewN ?_ _ | refine blk_drew ?_ | refine blk_alloc ?_ _)); exact BK130.out) hb); have n3_ := Aside0.mk (below_step (by with_reducible repeat first | exact HB.out | apply below_alloc | apply pw_below_drewN | apply below_drew1 | refine below_set ?_ GE122.out | refine below_set ?_ GE124.out | refine below_set ?_ GE130.out) hb); clear BK122; clear BK124; clear BK130; clear HB; have BK122 := n0_; have BK124 := n1_; have BK130 := n2_; have HB := n3_; clear n0_ n1_ n2_ n3_; (try clear hb); (try clear hb2); (try clear hk); (try clear hi); obtain ⟨hcz36_0, hcz36_1, hcz36_2, hcz36_3, hcz36_4, hcz36_5, hcz36_6, hcz36_7⟩ := bc8 BK130.out; obtain ⟨hfz36_0, hfz36_1, hfz36_2, hfz36_3, hfz36_4, hfz36_5, hfz36_6, hfz36_7⟩ := bf8 BK130.out; obtain ⟨hcz37_0, hcz37_1, hcz37_2, hcz37_3, hcz37_4, hcz37_5, hcz37_6, hcz37_7⟩ := bc8 BK124.out; obtain ⟨hfz37_0, hfz37_1, hfz37_2, hfz37_3, hfz37_4, hfz37_5, hfz37_6, hfz37_7⟩ := bf8 BK124.out))
           go_roundg kj13
           case measure => have := HK1.out; have := HJ13.out; omega
           case rel => exact ⟨(wrap64 (x12_1 + 1)), (x125002_13), (x125003_13), (x125004_13), (((rd_T38 y125 x12_1).f3.f0)), (((rd_T38 y125 x12_1).f3.f1)), (((rd_T38 y125 x12_1).f3.f2)), (by first | rfl | (simp; done) | (simp [*]; done)), H', ⟨by have := HK1.out; have := HJ13.out; omega⟩, ⟨by (iterate 3 (refine blk_far ?_ NB122_124.out _)); (with_reducible repeat (first | refine blk_drewN ?_ _ | refine blk_drew ?_ | refine blk_alloc ?_ _)); exact BK122.out⟩, ⟨by refine blk_put (cs := #[.int .i64 ((rd_T38 l0 0).f0), .int .i64 ((rd_T38 l0 0).f1), .bool x125002_13, .int .i64 x125003_13, .string x125004_13, .bool ((rd_T38 y125 x12_1).f3.f0), .int .i64 ((rd_T38 y125 x12_1).f3.f1), .string x125007_1]) ?_ 7 _ rfl; refine blk_put (cs := #[.int .i64 ((rd_T38 l0 0).f0), .int .i64 ((rd_T38 l0 0).f1), .bool x125002_13, .int .i64 x125003_13, .string x125004_13, .bool ((rd_T38 y125 x12_1).f3.f0), .int .i64 x125006_1, .string x125007_1]) ?_ 6 _ rfl; refine blk_put (cs := #[.int .i64 ((rd_T38 l0 0).f0), .int .i64 ((rd_T38 l0 0).f1), .bool x125002_13, .int .i64 x125003_13, .string x125004_13, .bool x125005_1, .int .i64 x125006_1, .string x125007_1]) ?_ 5 _ rfl; (with_reducible repeat (first | refine blk_drewN ?_ _ | refine blk_drew ?_ | refine blk_alloc ?_ _)); exact BK124.out⟩, ⟨by repeat (first | (with_reducible first | exact HB.out | apply below_alloc | apply pw_below_drewN | apply below_drew1 | refine below_set ?_ GE122.out | refine below_set ?_ GE124.out | refine below_set ?_ GE130.out) | exact HB.out)⟩⟩
          ·rw [if_neg c29] at H
           have c29b0 : decide (0 < t132) = false := decide_eq_false c29
           clear c29
           have H' := Aside0.mk H
           clear H
           have hnb38 := NB130_122.out
           have hnc38 := NB122_130.out
           have hnb39 := NB130_124.out
           have hnc39 := NB124_130.out
           obtain ⟨hcz40_0, hcz40_1, hcz40_2, hcz40_3, hcz40_4, hcz40_5, hcz40_6, hcz40_7⟩ := bc8 BK130.out
           obtain ⟨hfz40_0, hfz40_1, hfz40_2, hfz40_3, hfz40_4, hfz40_5, hfz40_6, hfz40_7⟩ := bf8 BK130.out
           have hnb41 := NB124_122.out
           have hnc41 := NB122_124.out
           obtain ⟨hcz42_0, hcz42_1, hcz42_2, hcz42_3, hcz42_4, hcz42_5, hcz42_6, hcz42_7⟩ := bc8 BK124.out
           obtain ⟨hfz42_0, hfz42_1, hfz42_2, hfz42_3, hfz42_4, hfz42_5, hfz42_6, hfz42_7⟩ := bf8 BK124.out
           go_wp2_with (first | ((with_reducible refine gate_callee (f := 33) rfl ?_); refine goesL_ (some 29) rfl rfl Try.func33 (by kernel_rfl) rfl #[.agg #[.bool ((rd_T38 y125 x12_1).f3.f0), .int .i64 ((rd_T38 y125 x12_1).f3.f1), .string ((rd_T38 y125 x12_1).f3.f2)], .agg #[.bool x125005_1, .int .i64 x125006_1, .string x125007_1]] rfl (by (try simp only [List.map_toArray, List.map_cons, List.map_nil]); first | done | rfl | (simp only [List.length_drop, List.length_take]; rfl)) ?_; (with_reducible refine (kinds_Compare_c.calls ((rd_T38 y125 x12_1).f3.f0) ((rd_T38 y125 x12_1).f3.f1) ((rd_T38 y125 x12_1).f3.f2) x125005_1 x125006_1 x125007_1 t132 _ A28.out).mono ?_); rintro e w43 ⟨rfl, hb⟩; refine ⟨_, rfl, ?_⟩; have n0_ := Aside0.mk (blk_below (g := gb122) (o := .cells #[.int .i64 0, .int .i64 0, .bool false, .int .i64 0, .string (⟨#[]⟩ : ByteArray), .bool false, .int .i64 0, .string (⟨#[]⟩ : ByteArray)] 38 (0, 0)) (by (with_reducible repeat (first | refine blk_drewN ?_ _ | refine blk_drew ?_ | refine blk_alloc ?_ _)); exact BK122.out) hb); have n1_ := Aside0.mk (blk_below (g := gb124) (o := .cells #[.int .i64 ((rd_T38 l0 0).f0), .int .i64 ((rd_T38 l0 0).f1), .bool x125002_13, .int .i64 x125003_13, .string x125004_13, .bool x125005_1, .int .i64 x125006_1, .string x125007_1] 38 (0, 0)) (by (with_reducible repeat (first | refine blk_drewN ?_ _ | refine blk_drew ?_ | refine blk_alloc ?_ _)); exact BK124.out) hb); have n2_ := Aside0.mk (blk_below (g := gb130) (o := .cells #[.int .i64 ((rd_T38 y125 x12_1).f0), .int .i64 ((rd_T38 y125 x12_1).f1), .bool ((rd_T38 y125 x12_1).f2.f0), .int .i64 ((rd_T38 y125 x12_1).f2.f1), .string ((rd_T38 y125 x12_1).f2.f2), .bool ((rd_T38 y125 x12_1).f3.f0), .int .i64 ((rd_T38 y125 x12_1).f3.f1), .string ((rd_T38 y125 x12_1).f3.f2)] 38 (0, 0)) (by (with_reducible repeat (first | refine blk_drewN ?_ _ | refine blk_drew ?_ | refine blk_alloc ?_ _)); exact BK130.out) hb); have n3_ := Aside0.mk (below_step (by with_reducible repeat first | exact HB.out | apply below_alloc | apply pw_below_drewN | apply below_drew1 | refine below_set ?_ GE122.out | refine below_set ?_ GE124.out | refine below_set ?_ GE130.out) hb); clear BK122; clear BK124; clear BK130; clear HB; have BK122 := n0_; have BK124 := n1_; have BK130 := n2_; have HB := n3_; clear n0_ n1_ n2_ n3_; (try clear hb); (try clear hb2); (try clear hk); (try clear hi)))
           go_roundg kj13
           case measure => have := HK1.out; have := HJ13.out; omega
           case rel => exact ⟨(wrap64 (x12_1 + 1)), (x125002_13), (x125003_13), (x125004_13), (x125005_1), (x125006_1), (x125007_1), (by first | rfl | (simp; done) | (simp [*]; done)), H', ⟨by have := HK1.out; have := HJ13.out; omega⟩, ⟨by (with_reducible repeat (first | refine blk_drewN ?_ _ | refine blk_drew ?_ | refine blk_alloc ?_ _)); exact BK122.out⟩, ⟨by (with_reducible repeat (first | refine blk_drewN ?_ _ | refine blk_drew ?_ | refine blk_alloc ?_ _)); exact BK124.out⟩, ⟨by repeat (first | (with_reducible first | exact HB.out | apply below_alloc | apply pw_below_drewN | apply below_drew1 | refine below_set ?_ GE122.out | refine below_set ?_ GE124.out | refine below_set ?_ GE130.out) | exact HB.out)⟩⟩
       ·rw [if_neg c12] at H
        exact absurd H (by simp)
      ·rw [if_neg c11] at H
       exact absurd H (by simp)
     ·rw [if_neg c10] at H
      have c10b0 : decide (x12_1 < (y125.length : Int)) = false := decide_eq_false c10
      clear c10
      simp only [Option.some.injEq, Prod.mk.injEq] at H
      obtain ⟨rfl, rfl, rfl, rfl, rfl, rfl, rfl, rfl⟩ := H
      have hnb44 := NB124_122.out
      have hnc44 := NB122_124.out
      obtain ⟨hcz45_0, hcz45_1, hcz45_2, hcz45_3, hcz45_4, hcz45_5, hcz45_6, hcz45_7⟩ := bc8 BK124.out
      obtain ⟨hfz45_0, hfz45_1, hfz45_2, hfz45_3, hfz45_4, hfz45_5, hfz45_6, hfz45_7⟩ := bf8 BK124.out
      obtain ⟨hcz46_0, hcz46_1, hcz46_2, hcz46_3, hcz46_4, hcz46_5, hcz46_6, hcz46_7⟩ := bc8 BK122.out
      obtain ⟨hfz46_0, hfz46_1, hfz46_2, hfz46_3, hfz46_4, hfz46_5, hfz46_6, hfz46_7⟩ := bf8 BK122.out
      go_wp2
      refine bodyPost_ret (results_cell_row rfl _ _ gb122 38 #[.int .i64 ((rd_T38 l0 0).f0), .int .i64 ((rd_T38 l0 0).f1), .bool x125002_1, .int .i64 x125003_1, .string x125004_1, .bool x125005_1, .int .i64 x125006_1, .string x125007_1] (0, 0) _ rfl (by refine blk_put (cs := #[.int .i64 ((rd_T38 l0 0).f0), .int .i64 ((rd_T38 l0 0).f1), .bool x125002_1, .int .i64 x125003_1, .string x125004_1, .bool x125005_1, .int .i64 x125006_1, .string (⟨#[]⟩ : ByteArray)]) ?_ 7 _ rfl; refine blk_put (cs := #[.int .i64 ((rd_T38 l0 0).f0), .int .i64 ((rd_T38 l0 0).f1), .bool x125002_1, .int .i64 x125003_1, .string x125004_1, .bool x125005_1, .int .i64 0, .string (⟨#[]⟩ : ByteArray)]) ?_ 6 _ rfl; refine blk_put (cs := #[.int .i64 ((rd_T38 l0 0).f0), .int .i64 ((rd_T38 l0 0).f1), .bool x125002_1, .int .i64 x125003_1, .string x125004_1, .bool false, .int .i64 0, .string (⟨#[]⟩ : ByteArray)]) ?_ 5 _ rfl; refine blk_put (cs := #[.int .i64 ((rd_T38 l0 0).f0), .int .i64 ((rd_T38 l0 0).f1), .bool x125002_1, .int .i64 x125003_1, .string (⟨#[]⟩ : ByteArray), .bool false, .int .i64 0, .string (⟨#[]⟩ : ByteArray)]) ?_ 4 _ rfl; refine blk_put (cs := #[.int .i64 ((rd_T38 l0 0).f0), .int .i64 ((rd_T38 l0 0).f1), .bool x125002_1, .int .i64 0, .string (⟨#[]⟩ : ByteArray), .bool false, .int .i64 0, .string (⟨#[]⟩ : ByteArray)]) ?_ 3 _ rfl; refine blk_put (cs := #[.int .i64 ((rd_T38 l0 0).f0), .int .i64 ((rd_T38 l0 0).f1), .bool false, .int .i64 0, .string (⟨#[]⟩ : ByteArray), .bool false, .int .i64 0, .string (⟨#[]⟩ : ByteArray)]) ?_ 2 _ rfl; refine blk_put (cs := #[.int .i64 ((rd_T38 l0 0).f0), .int .i64 0, .bool false, .int .i64 0, .string (⟨#[]⟩ : ByteArray), .bool false, .int .i64 0, .string (⟨#[]⟩ : ByteArray)]) ?_ 1 _ rfl; refine blk_put (cs := #[.int .i64 0, .int .i64 0, .bool false, .int .i64 0, .string (⟨#[]⟩ : ByteArray), .bool false, .int .i64 0, .string (⟨#[]⟩ : ByteArray)]) ?_ 0 _ rfl; (with_reducible repeat (first | refine blk_drewN ?_ _ | refine blk_drew ?_ | refine blk_alloc ?_ _)); exact BK122.out) Try.underlying38 rfl (by kernel_rfl)) rfl ?_
      exact ⟨by first | rfl | (simp [errW_none, errW_some] <;> rfl) | (simp [*, errW_none, errW_some] <;> rfl), by repeat (first | (with_reducible first | exact HB.out | apply below_alloc | apply pw_below_drewN | apply below_drew1 | refine below_set ?_ GE122.out | refine below_set ?_ GE124.out) | exact HB.out)⟩
  ·rw [if_neg c3] at H
   exact absurd H (by simp)
 ·rw [if_neg c2] at H
  exact absurd H (by simp)

end Go.Proofs.Ytcbgcmaioicdbaa.Pr
