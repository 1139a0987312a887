-- printed by xprint.py
import Derived.Test.YtcbgcmaioicdbaaPr0
import Derived.Test.YtcbgcmaioicdbaaPrf42
namespace Go.Proofs.Ytcbgcmaioicdbaa.Pr
open Go.RowKit Go.Proofs.YtcbgcmaioicdbaaW PrintWords PrintLast PrintMore
set_option linter.unusedVariables false
set_option linter.unusedSimpArgs false

/-! ### tithebarnref17_span: function 40 -/
mutual
def tithebarnref17_span.l0 : Nat → List (S38) → Int → Int → Int → Bool → Int → ByteArray → Bool → Int → ByteArray → Option (Int × Int × Bool × Int × ByteArray × Bool × Int × ByteArray)
 | 0, _, _, _, _, _, _, _, _, _, _ => none
 | k + 1, x0, x4, x254000, x254001, x254002, x254003, x254004, x254005, x254006, x254007 => if x4 < (x0.length : Int) then (if 0 ≤ x4 then ((tithebarnref02_Ahead_c.f ((rd_T38 x0 x4).f2.f0) ((rd_T38 x0 x4).f2.f1) ((rd_T38 x0 x4).f2.f2) x254002 x254003 x254004).bind fun t255 => (if t255 = true then (tithebarnref17_span.j1 k x0 x4 x254000 x254001 ((rd_T38 x0 x4).f2.f0) ((rd_T38 x0 x4).f2.f1) ((rd_T38 x0 x4).f2.f2) x254005 x254006 x254007) else (tithebarnref17_span.j1 k x0 x4 x254000 x254001 x254002 x254003 x254004 x254005 x254006 x254007))) else (none)) else (some (x254000, x254001, x254002, x254003, x254004, x254005, x254006, x254007))
def tithebarnref17_span.j1 : Nat → List (S38) → Int → Int → Int → Bool → Int → ByteArray → Bool → Int → ByteArray → Option (Int × Int × Bool × Int × ByteArray × Bool × Int × ByteArray)
 | 0, _, _, _, _, _, _, _, _, _, _ => none
 | k + 1, x0, x4, x254000, x254001, x254002, x254003, x254004, x254005, x254006, x254007 => if 0 ≤ x4 then (if x4 < (x0.length : Int) then ((tithebarnref02_Ahead_c.f x254005 x254006 x254007 ((rd_T38 x0 x4).f3.f0) ((rd_T38 x0 x4).f3.f1) ((rd_T38 x0 x4).f3.f2)).bind fun t258 => (if t258 = true then (tithebarnref17_span.l0 k x0 (wrap64 (x4 + 1)) x254000 x254001 x254002 x254003 x254004 ((rd_T38 x0 x4).f3.f0) ((rd_T38 x0 x4).f3.f1) ((rd_T38 x0 x4).f3.f2)) else (tithebarnref17_span.l0 k x0 (wrap64 (x4 + 1)) x254000 x254001 x254002 x254003 x254004 x254005 x254006 x254007))) else (none)) else (none)
end
def tithebarnref17_span.f (k : Nat) (l0 : List (S38)) : Option (Int × Int × Bool × Int × ByteArray × Bool × Int × ByteArray) := if 0 < (l0.length : Int) then (tithebarnref17_span.l0 k l0 1 ((rd_T38 l0 0).f0) ((rd_T38 l0 0).f1) ((rd_T38 l0 0).f2.f0) ((rd_T38 l0 0).f2.f1) ((rd_T38 l0 0).f2.f2) ((rd_T38 l0 0).f3.f0) ((rd_T38 l0 0).f3.f1) ((rd_T38 l0 0).f3.f2)) else (none)
theorem tithebarnref17_span.mono_l : ∀ k, (∀ y0 y1 y2 y3 y4 y5 y6 y7 y8 y9, LeO (tithebarnref17_span.l0 k y0 y1 y2 y3 y4 y5 y6 y7 y8 y9) (tithebarnref17_span.l0 (k + 1) y0 y1 y2 y3 y4 y5 y6 y7 y8 y9)) ∧ (∀ y0 y1 y2 y3 y4 y5 y6 y7 y8 y9, LeO (tithebarnref17_span.j1 k y0 y1 y2 y3 y4 y5 y6 y7 y8 y9) (tithebarnref17_span.j1 (k + 1) y0 y1 y2 y3 y4 y5 y6 y7 y8 y9))
 | 0 => ⟨fun _ _ _ _ _ _ _ _ _ _ r h => by simp [tithebarnref17_span.l0] at h, fun _ _ _ _ _ _ _ _ _ _ r h => by simp [tithebarnref17_span.j1] at h⟩
 | k + 1 => by
  obtain ⟨ih0, ih1⟩ := tithebarnref17_span.mono_l k
  refine ⟨?_, ?_⟩
  ·intro y0 y1 y2 y3 y4 y5 y6 y7 y8 y9
   unfold tithebarnref17_span.l0
   repeat' first
   | (with_reducible exact ih0 _ _ _ _ _ _ _ _ _ _)
   | (with_reducible exact ih1 _ _ _ _ _ _ _ _ _ _)
   | (with_reducible exact LeO.refl _)
   | (with_reducible exact LeO.none _)
   | (with_reducible refine LeO.ite ?_ ?_)
   | (with_reducible refine LeO.bind ?_ (fun _ => ?_))
  ·intro y0 y1 y2 y3 y4 y5 y6 y7 y8 y9
   unfold tithebarnref17_span.j1
   repeat' first
   | (with_reducible exact ih0 _ _ _ _ _ _ _ _ _ _)
   | (with_reducible exact ih1 _ _ _ _ _ _ _ _ _ _)
   | (with_reducible exact LeO.refl _)
   | (with_reducible exact LeO.none _)
   | (with_reducible refine LeO.ite ?_ ?_)
   | (with_reducible refine LeO.bind ?_ (fun _ => ?_))
theorem tithebarnref17_span.mono : ∀ a0 k, LeO (tithebarnref17_span.f k a0) (tithebarnref17_span.f (k + 1) a0) := by
 intro a0 k
 obtain ⟨ih0, ih1⟩ := tithebarnref17_span.mono_l k
 unfold tithebarnref17_span.f
 repeat' first
   | (with_reducible exact ih0 _ _ _ _ _ _ _ _ _ _)
   | (with_reducible exact ih1 _ _ _ _ _ _ _ _ _ _)
   | (with_reducible exact LeO.refl _)
   | (with_reducible exact LeO.none _)
   | (with_reducible refine LeO.ite ?_ ?_)
   | (with_reducible refine LeO.bind ?_ (fun _ => ?_))
def tithebarnref17_span.T5 : Bool × List (List Nat × List Nat) := (true, [([], []), ([], []), ([0, 1], [0, 1]), ([2], [2]), ([3], [3]), ([], []), ([5], [5]), ([4, 6], [4, 6])])
def tithebarnref17_span.B5 : List Nat := [0, 0, 3, 7, 15, 0, 32, 127]
theorem tithebarnref17_span.tab5 : rtab .any (opsOf Try.f40 5) = tithebarnref17_span.T5 := by kernel_rfl
theorem tithebarnref17_span.bits5 : waitsOk tithebarnref17_span.T5.2 tithebarnref17_span.B5 = true := by kernel_rfl
def tithebarnref17_span.T7 : Bool × List (List Nat × List Nat) := (true, [([], []), ([0], [0]), ([], []), ([], []), ([2, 3], [2, 3]), ([4], [4]), ([5], [5]), ([1, 6], [1, 6])])
def tithebarnref17_span.B7 : List Nat := [0, 1, 0, 0, 12, 28, 60, 127]
theorem tithebarnref17_span.tab7 : rtab .any (opsOf Try.f40 7) = tithebarnref17_span.T7 := by kernel_rfl
theorem tithebarnref17_span.bits7 : waitsOk tithebarnref17_span.T7.2 tithebarnref17_span.B7 = true := by kernel_rfl
set_option maxHeartbeats 8000000 in
set_option maxRecDepth 100000 in
theorem tithebarnref17_span.calls (k : Nat) (A0 : Option Addr) (c0 : Nat) (l0 : List (S38)) (r1 : Int) (r2 : Int) (r3 : Bool) (r4 : Int) (r5 : ByteArray) (r6 : Bool) (r7 : Int) (r8 : ByteArray) (w : World) (hr0 : Kd.C k38 w A0 l0.length l0) (hc0 : l0.length ≤ c0) (h : tithebarnref17_span.f k l0 = some (r1, r2, r3, r4, r5, r6, r7, r8)) :
  Calls Try.prog 40 #[.slice A0 l0.length c0] w fun e w' => e = .returned (.agg #[.int .i64 r1, .int .i64 r2, .bool r3, .int .i64 r4, .string r5, .bool r6, .int .i64 r7, .string r8]) ∧ Below w.heap.size w w' := by
 have hu38 := Try.underlying38
 have hu36 := Try.underlying36
 have HR0 := Aside0.mk hr0
 have HC0 := Aside0.mk hc0
 clear hr0 hc0
 have HB := Aside0.mk (Below.refl w.heap.size w)
 have H : (if 0 < (l0.length : Int) then (tithebarnref17_span.l0 k l0 1 ((rd_T38 l0 0).f0) ((rd_T38 l0 0).f1) ((rd_T38 l0 0).f2.f0) ((rd_T38 l0 0).f2.f1) ((rd_T38 l0 0).f2.f2) ((rd_T38 l0 0).f3.f0) ((rd_T38 l0 0).f3.f1) ((rd_T38 l0 0).f3.f2)) else (none)) = some (r1, r2, r3, r4, r5, r6, r7, r8) := h
 clear h
 by_cases c2 : 0 < (l0.length : Int)
 ·rw [if_pos c2] at H
  have c2b0 : decide (0 < (l0.length : Int)) = true := decide_eq_true c2
  have c2b1 : decide (0 < l0.length) = true := decide_eq_true (by omega)
  clear c2
  have H' := Aside0.mk H
  clear H
  go_enter Try.func40, Try.ntmps40
  go_wp2_with (first | ((with_reducible refine gate_dst (N := 2) rfl ?_); refine box_event ?hg (N := 2) ?hd (cs := #[.int .i64 0, .int .i64 0, .bool false, .int .i64 0, .string (⟨#[]⟩ : ByteArray), .bool false, .int .i64 0, .string (⟨#[]⟩ : ByteArray)]) (t := 38) ?hr ?_; (case hd => rfl); (case hg => rfl); (case hr => first | (go_simp; done) | (go_simp; rfl)); intro gb251 hg w3 hbox hb; have n0_ := Aside0.mk (below_step (by with_reducible repeat first | exact HB.out | apply below_alloc | apply pw_below_drewN | apply below_drew1) hb); have n1_ := Aside0.mk (hbox); have n2_ := Aside0.mk ((by rw [hg]; exact (below_size (by with_reducible repeat first | exact HB.out | apply below_alloc | apply pw_below_drewN | apply below_drew1)) : w.heap.size ≤ gb251)); have n3_ := Aside0.mk ((by rw [hg]; exact (below_size (by with_reducible repeat first | exact HB.out | apply below_alloc | apply pw_below_drewN | apply below_drew1)) : w.heap.size ≤ gb251)); clear HB; have HB := n0_; have BK251 := n1_; have GW251 := n2_; have GE251 := n3_; clear n0_ n1_ n2_ n3_; clear hb hbox hg; have p252 : 0 ≤ (0 : Int) := (by omega); have q252 : 0 < (l0.length : Int) := of_decide_eq_true (by with_reducible assumption); obtain ⟨ad252, e252, hx252_0, hx252_1, hx252_2, hx252_3, hx252_4, hx252_5, hx252_6, hx252_7⟩ := at_T38 HR0.out 0 p252 q252; cases e252; have qi252 : (0 < l0.length) = True := eq_true (by omega); (try rw [show ((0 : Int)).toNat = 0 from rfl] at hx252_0); (try rw [show 0 * 8 = 0 from rfl] at hx252_0); (try rw [Addr.add_zero'] at hx252_0); (try rw [show ((0 : Int)).toNat = 0 from rfl] at hx252_1); (try rw [show 0 * 8 = 0 from rfl] at hx252_1); (try rw [Addr.add_zero'] at hx252_1); (try rw [show ((0 : Int)).toNat = 0 from rfl] at hx252_2); (try rw [show 0 * 8 = 0 from rfl] at hx252_2); (try rw [Addr.add_zero'] at hx252_2); (try rw [show ((0 : Int)).toNat = 0 from rfl] at hx252_3); (try rw [show 0 * 8 = 0 from rfl] at hx252_3); (try rw [Addr.add_zero'] at hx252_3); (try rw [show ((0 : Int)).toNat = 0 from rfl] at hx252_4); (try rw [show 0 * 8 = 0 from rfl] at hx252_4); (try rw [Addr.add_zero'] at hx252_4); (try rw [show ((0 : Int)).toNat = 0 from rfl] at hx252_5); (try rw [show 0 * 8 = 0 from rfl] at hx252_5); (try rw [Addr.add_zero'] at hx252_5); (try rw [show ((0 : Int)).toNat = 0 from rfl] at hx252_6); (try rw [show 0 * 8 = 0 from rfl] at hx252_6); (try rw [Addr.add_zero'] at hx252_6); (try rw [show ((0 : Int)).toNat = 0 from rfl] at hx252_7); (try rw [show 0 * 8 = 0 from rfl] at hx252_7); (try rw [Addr.add_zero'] at hx252_7); replace hx252_0 := pw_cell_below HB.out hx252_0; replace hx252_1 := pw_cell_below HB.out hx252_1; replace hx252_2 := pw_cell_below HB.out hx252_2; replace hx252_3 := pw_cell_below HB.out hx252_3; replace hx252_4 := pw_cell_below HB.out hx252_4; replace hx252_5 := pw_cell_below HB.out hx252_5; replace hx252_6 := pw_cell_below HB.out hx252_6; replace hx252_7 := pw_cell_below HB.out hx252_7; replace p252 := eq_true p252; replace q252 := eq_true q252) | ((with_reducible refine gate_dst (N := 3) rfl ?_); refine box_event ?hg (N := 3) ?hd (cs := #[.int .i64 0, .int .i64 0, .bool false, .int .i64 0, .string (⟨#[]⟩ : ByteArray), .bool false, .int .i64 0, .string (⟨#[]⟩ : ByteArray)]) (t := 38) ?hr ?_; (case hd => rfl); (case hg => rfl); (case hr => first | (go_simp; done) | (go_simp; rfl)); intro gb253 hg w4 hbox hb; have n0_ := Aside0.mk (blk_below (g := gb251) (o := .cells #[.int .i64 0, .int .i64 0, .bool false, .int .i64 0, .string (⟨#[]⟩ : ByteArray), .bool false, .int .i64 0, .string (⟨#[]⟩ : ByteArray)] 38 (0, 0)) (by (with_reducible repeat (first | refine blk_drewN ?_ _ | refine blk_drew ?_ | refine blk_alloc ?_ _)); exact BK251.out) hb); have n1_ := Aside0.mk (below_step (by with_reducible repeat first | exact HB.out | apply below_alloc | apply pw_below_drewN | apply below_drew1 | refine below_set ?_ GE251.out) hb); have n2_ := Aside0.mk (hbox); have n3_ := Aside0.mk ((by rw [hg]; exact (below_size (by with_reducible repeat first | exact HB.out | apply below_alloc | apply pw_below_drewN | apply below_drew1 | refine below_set ?_ GE251.out)) : w.heap.size ≤ gb253)); have n4_ := Aside0.mk ((by rw [hg]; exact (below_size (by with_reducible repeat first | exact HB.out | apply below_alloc | apply pw_below_drewN | apply below_drew1 | refine below_set ?_ GE251.out)) : w.heap.size ≤ gb253)); have n5_ := Aside0.mk ((by rw [hg]; exact Nat.ne_of_lt (blk_lt (g := gb251) (o := .cells #[.int .i64 0, .int .i64 0, .bool false, .int .i64 0, .string (⟨#[]⟩ : ByteArray), .bool false, .int .i64 0, .string (⟨#[]⟩ : ByteArray)] 38 (0, 0)) (by (with_reducible repeat (first | refine blk_drewN ?_ _ | refine blk_drew ?_ | refine blk_alloc ?_ _)); exact BK251.out)) : gb251 ≠ gb253)); have n6_ := Aside0.mk ((by rw [hg]; exact Nat.ne_of_gt (blk_lt (g := gb251) (o := .cells #[.int .i64 0, .int .i64 0, .bool false, .int .i64 0, .string (⟨#[]⟩ : ByteArray), .bool false, .int .i64 0, .string (⟨#[]⟩ : ByteArray)] 38 (0, 0)) (by (with_reducible repeat (first | refine blk_drewN ?_ _ | refine blk_drew ?_ | refine blk_alloc ?_ _)); exact BK251.out)) : gb253 ≠ gb251)); clear BK251; clear HB; have BK251 := n0_; have HB := n1_; have BK253 := n2_; have GW253 := n3_; have GE253 := n4_; have NB251_253 := n5_; have NB253_251 := n6_; clear n0_ n1_ n2_ n3_ n4_ n5_ n6_; clear hb hbox hg; have hnb5 := NB253_251.out; have hnc5 := NB251_253.out; obtain ⟨hcz6_0, hcz6_1, hcz6_2, hcz6_3, hcz6_4, hcz6_5, hcz6_6, hcz6_7⟩ := bc8 BK253.out; obtain ⟨hfz6_0, hfz6_1, hfz6_2, hfz6_3, hfz6_4, hfz6_5, hfz6_6, hfz6_7⟩ := bf8 BK253.out))
  go_loopg [4] k (fun kq v4 w' => ∃ (x4_1 : Int) (x254002_1 : Bool) (x254003_1 : Int) (x254004_1 : ByteArray) (x254005_1 : Bool) (x254006_1 : Int) (x254007_1 : ByteArray), v4 = .int .i64 x4_1 ∧ Aside0 (tithebarnref17_span.l0 kq l0 x4_1 ((rd_T38 l0 0).f0) ((rd_T38 l0 0).f1) x254002_1 x254003_1 x254004_1 x254005_1 x254006_1 x254007_1 = some (r1, r2, r3, r4, r5, r6, r7, r8)) ∧ Aside0 (kq ≤ k) ∧ Aside0 (w'.heap[gb251]? = some (.cells #[.int .i64 0, .int .i64 0, .bool false, .int .i64 0, .string (⟨#[]⟩ : ByteArray), .bool false, .int .i64 0, .string (⟨#[]⟩ : ByteArray)] 38 (0, 0))) ∧ Aside0 (w'.heap[gb253]? = some (.cells #[.int .i64 ((rd_T38 l0 0).f0), .int .i64 ((rd_T38 l0 0).f1), .bool x254002_1, .int .i64 x254003_1, .string x254004_1, .bool x254005_1, .int .i64 x254006_1, .string x254007_1] 38 (0, 0))) ∧ Aside0 (Below w.heap.size w w'))
  case atStart => exact ⟨(1), ((rd_T38 l0 0).f2.f0), ((rd_T38 l0 0).f2.f1), ((rd_T38 l0 0).f2.f2), ((rd_T38 l0 0).f3.f0), ((rd_T38 l0 0).f3.f1), ((rd_T38 l0 0).f3.f2), (by first | rfl | (simp; done) | (simp [*]; done)), H', ⟨Nat.le_refl _⟩, ⟨by (iterate 8 (refine blk_far ?_ NB251_253.out _)); (with_reducible repeat (first | refine blk_drewN ?_ _ | refine blk_drew ?_ | refine blk_alloc ?_ _)); exact BK251.out⟩, ⟨by refine blk_put (cs := #[.int .i64 ((rd_T38 l0 0).f0), .int .i64 ((rd_T38 l0 0).f1), .bool ((rd_T38 l0 0).f2.f0), .int .i64 ((rd_T38 l0 0).f2.f1), .string ((rd_T38 l0 0).f2.f2), .bool ((rd_T38 l0 0).f3.f0), .int .i64 ((rd_T38 l0 0).f3.f1), .string (⟨#[]⟩ : ByteArray)]) ?_ 7 _ rfl; refine blk_put (cs := #[.int .i64 ((rd_T38 l0 0).f0), .int .i64 ((rd_T38 l0 0).f1), .bool ((rd_T38 l0 0).f2.f0), .int .i64 ((rd_T38 l0 0).f2.f1), .string ((rd_T38 l0 0).f2.f2), .bool ((rd_T38 l0 0).f3.f0), .int .i64 0, .string (⟨#[]⟩ : ByteArray)]) ?_ 6 _ rfl; refine blk_put (cs := #[.int .i64 ((rd_T38 l0 0).f0), .int .i64 ((rd_T38 l0 0).f1), .bool ((rd_T38 l0 0).f2.f0), .int .i64 ((rd_T38 l0 0).f2.f1), .string ((rd_T38 l0 0).f2.f2), .bool false, .int .i64 0, .string (⟨#[]⟩ : ByteArray)]) ?_ 5 _ rfl; refine blk_put (cs := #[.int .i64 ((rd_T38 l0 0).f0), .int .i64 ((rd_T38 l0 0).f1), .bool ((rd_T38 l0 0).f2.f0), .int .i64 ((rd_T38 l0 0).f2.f1), .string (⟨#[]⟩ : ByteArray), .bool false, .int .i64 0, .string (⟨#[]⟩ : ByteArray)]) ?_ 4 _ rfl; refine blk_put (cs := #[.int .i64 ((rd_T38 l0 0).f0), .int .i64 ((rd_T38 l0 0).f1), .bool ((rd_T38 l0 0).f2.f0), .int .i64 0, .string (⟨#[]⟩ : ByteArray), .bool false, .int .i64 0, .string (⟨#[]⟩ : ByteArray)]) ?_ 3 _ rfl; refine blk_put (cs := #[.int .i64 ((rd_T38 l0 0).f0), .int .i64 ((rd_T38 l0 0).f1), .bool false, .int .i64 0, .string (⟨#[]⟩ : ByteArray), .bool false, .int .i64 0, .string (⟨#[]⟩ : ByteArray)]) ?_ 2 _ rfl; refine blk_put (cs := #[.int .i64 ((rd_T38 l0 0).f0), .int .i64 0, .bool false, .int .i64 0, .string (⟨#[]⟩ : ByteArray), .bool false, .int .i64 0, .string (⟨#[]⟩ : ByteArray)]) ?_ 1 _ rfl; refine blk_put (cs := #[.int .i64 0, .int .i64 0, .bool false, .int .i64 0, .string (⟨#[]⟩ : ByteArray), .bool false, .int .i64 0, .string (⟨#[]⟩ : ByteArray)]) ?_ 0 _ rfl; (with_reducible repeat (first | refine blk_drewN ?_ _ | refine blk_drew ?_ | refine blk_alloc ?_ _)); exact BK253.out⟩, ⟨by repeat (first | (with_reducible first | exact HB.out | apply below_alloc | apply pw_below_drewN | apply below_drew1 | refine below_set ?_ GE251.out | refine below_set ?_ GE253.out) | exact HB.out)⟩⟩
  case round =>
   clear H'
   try clear c2
   try clear c2b0
   try clear c2b1
   try clear p2
   try clear q2
   try clear hx2
   try clear qi2
   try clear c4
   try clear c5
   try clear hcz6_0 hcz6_1 hcz6_2 hcz6_3 hcz6_4 hcz6_5 hcz6_6 hcz6_7
   try clear hfz6_0 hfz6_1 hfz6_2 hfz6_3 hfz6_4 hfz6_5 hfz6_6 hfz6_7
   try clear hx252_0 hx252_1 hx252_2 hx252_3 hx252_4 hx252_5 hx252_6 hx252_7
   try clear p252
   try clear q252
   obtain ⟨x4_1, x254002_1, x254003_1, x254004_1, x254005_1, x254006_1, x254007_1, rfl, HA, HK1, BK251, BK253, HB⟩ := hrel
   cases gk with
   | zero => exact absurd HA.out (by simp [tithebarnref17_span.l0])
   | succ k1 =>
    have H := HA.out
    clear HA
    simp only [tithebarnref17_span.l0] at H
    by_cases c7 : x4_1 < (l0.length : Int)
    ·rw [if_pos c7] at H
     have c7b0 : decide (x4_1 < (l0.length : Int)) = true := decide_eq_true c7
     clear c7
     by_cases c8 : 0 ≤ x4_1
     ·rw [if_pos c8] at H
      have c8b0 : decide (0 ≤ x4_1) = true := decide_eq_true c8
      clear c8
      replace H := Option.bind_eq_some_iff.mp H
      obtain ⟨t255, A90, H⟩ := H
      replace H : (if t255 = true then (tithebarnref17_span.j1 k1 l0 x4_1 ((rd_T38 l0 0).f0) ((rd_T38 l0 0).f1) ((rd_T38 l0 x4_1).f2.f0) ((rd_T38 l0 x4_1).f2.f1) ((rd_T38 l0 x4_1).f2.f2) x254005_1 x254006_1 x254007_1) else (tithebarnref17_span.j1 k1 l0 x4_1 ((rd_T38 l0 0).f0) ((rd_T38 l0 0).f1) x254002_1 x254003_1 x254004_1 x254005_1 x254006_1 x254007_1)) = some (r1, r2, r3, r4, r5, r6, r7, r8) := H
      have A9 := Aside0.mk A90
      clear A90
      have HC10 := Aside0.mk H
      clear H
      try go_wp2
      have n0_ := Aside0.mk (blk_drew BK251.out)
      have n1_ := Aside0.mk (blk_drew BK253.out)
      have n2_ := Aside0.mk (below_drew1 HB.out)
      clear BK251
      clear BK253
      clear HB
      have BK251 := n0_
      have BK253 := n1_
      have HB := n2_
      clear n0_ n1_ n2_
      have p254 : 0 ≤ (x4_1 : Int) := of_decide_eq_true (by with_reducible assumption)
      have q254 : x4_1 < (l0.length : Int) := of_decide_eq_true (by with_reducible assumption)
      obtain ⟨ad254, e254, hx254_0, hx254_1, hx254_2, hx254_3, hx254_4, hx254_5, hx254_6, hx254_7⟩ := at_T38 HR0.out x4_1 p254 q254
      have hw254_7 := hx254_7
      have hw254_6 := hx254_6
      have hw254_5 := hx254_5
      have hw254_4 := hx254_4
      have hw254_3 := hx254_3
      have hw254_2 := hx254_2
      have hw254_1 := hx254_1
      have hw254_0 := hx254_0
      obtain rfl : ad252 = ad254 := (by injection e254)
      replace hx254_0 := pw_cell_below HB.out hx254_0
      replace hx254_1 := pw_cell_below HB.out hx254_1
      replace hx254_2 := pw_cell_below HB.out hx254_2
      replace hx254_3 := pw_cell_below HB.out hx254_3
      replace hx254_4 := pw_cell_below HB.out hx254_4
      replace hx254_5 := pw_cell_below HB.out hx254_5
      replace hx254_6 := pw_cell_below HB.out hx254_6
      replace hx254_7 := pw_cell_below HB.out hx254_7
      replace p254 := eq_true p254
      replace q254 := eq_true q254
      refine start_ (n := 8) (S := fun w' => w'.cell? ⟨gb253, 0, none⟩ = some (.int .i64 ((rd_T38 l0 0).f0)) ∧ w'.cell? ⟨gb253, 1, none⟩ = some (.int .i64 ((rd_T38 l0 0).f1)) ∧ w'.cell? ⟨gb253, 2, none⟩ = some (.bool x254002_1) ∧ w'.cell? ⟨gb253, 3, none⟩ = some (.int .i64 x254003_1) ∧ w'.cell? ⟨gb253, 4, none⟩ = some (.string x254004_1) ∧ w'.cell? ⟨gb253, 5, none⟩ = some (.bool x254005_1) ∧ w'.cell? ⟨gb253, 6, none⟩ = some (.int .i64 x254006_1) ∧ w'.cell? ⟨gb253, 7, none⟩ = some (.string x254007_1) ∧ w'.cell? (ad252.add ((x4_1).toNat * 8)) = some (.int .i64 ((rd_T38 l0 x4_1).f0)) ∧ w'.cell? ⟨(ad252.add ((x4_1).toNat * 8)).block, (ad252.add ((x4_1).toNat * 8)).off + 1, none⟩ = some (.int .i64 ((rd_T38 l0 x4_1).f1)) ∧ w'.cell? ⟨(ad252.add ((x4_1).toNat * 8)).block, (ad252.add ((x4_1).toNat * 8)).off + 2, none⟩ = some (.bool ((rd_T38 l0 x4_1).f2.f0)) ∧ w'.cell? ⟨(ad252.add ((x4_1).toNat * 8)).block, (ad252.add ((x4_1).toNat * 8)).off + 3, none⟩ = some (.int .i64 ((rd_T38 l0 x4_1).f2.f1)) ∧ w'.cell? ⟨(ad252.add ((x4_1).toNat * 8)).block, (ad252.add ((x4_1).toNat * 8)).off + 4, none⟩ = some (.string ((rd_T38 l0 x4_1).f2.f2)) ∧ w'.cell? ⟨(ad252.add ((x4_1).toNat * 8)).block, (ad252.add ((x4_1).toNat * 8)).off + 5, none⟩ = some (.bool ((rd_T38 l0 x4_1).f3.f0)) ∧ w'.cell? ⟨(ad252.add ((x4_1).toNat * 8)).block, (ad252.add ((x4_1).toNat * 8)).off + 6, none⟩ = some (.int .i64 ((rd_T38 l0 x4_1).f3.f1)) ∧ w'.cell? ⟨(ad252.add ((x4_1).toNat * 8)).block, (ad252.add ((x4_1).toNat * 8)).off + 7, none⟩ = some (.string ((rd_T38 l0 x4_1).f3.f2))) (ds := []) #[false, false, false, false, false, false, false, false] (by kernel_rfl) rfl rfl ⟨(blk_cell BK253.out 0).trans rfl, (blk_cell BK253.out 1).trans rfl, (blk_cell BK253.out 2).trans rfl, (blk_cell BK253.out 3).trans rfl, (blk_cell BK253.out 4).trans rfl, (blk_cell BK253.out 5).trans rfl, (blk_cell BK253.out 6).trans rfl, (blk_cell BK253.out 7).trans rfl, (pw_cell_below HB.out hw254_0), (pw_cell_below HB.out hw254_1), (pw_cell_below HB.out hw254_2), (pw_cell_below HB.out hw254_3), (pw_cell_below HB.out hw254_4), (pw_cell_below HB.out hw254_5), (pw_cell_below HB.out hw254_6), (pw_cell_below HB.out hw254_7)⟩ (fun hHeld => ?_); refine with_tabW tithebarnref17_span.tab5 tithebarnref17_span.bits5 (fun HT_ HW_ => ?_)
      generalize wr.drew = w11 at BK251 BK253 HB hx254_0 hx254_1 hx254_2 hx254_3 hx254_4 hx254_5 hx254_6 hx254_7 hHeld ⊢
      refine pure_ (i := 0) (N := some 14) (v := ?_) (a' := ?_) #[true, false, false, false, false, false, false, false] rfl rfl (any_of HT_.out (by kernel_rfl)) (fun _ _ _ h => h) (Or.inl ⟨by rfl, ?_⟩) ?_ ?_
      rotate_left
      ·intro w'
       go_simp
       with_reducible rfl
      rotate_left
      ·simp only [Act.put, List.setIfInBounds_toArray, List.set_cons_zero, List.set_cons_succ, i64_w, i32_w]
       rfl
      refine pure_ (i := 1) (N := some 15) (v := ?_) (a' := ?_) #[true, true, false, false, false, false, false, false] rfl rfl (any_of HT_.out (by kernel_rfl)) (fun _ _ _ h => h) (Or.inl ⟨by rfl, ?_⟩) ?_ ?_
      rotate_left
      ·intro w'
       go_simp
       with_reducible rfl
      rotate_left
      ·simp only [Act.put, List.setIfInBounds_toArray, List.set_cons_zero, List.set_cons_succ, i64_w, i32_w]
       rfl
      refine pure_ (i := 2) (N := some 16) (v := ?_) (a' := ?_) #[true, true, true, false, false, false, false, false] rfl rfl (any_of HT_.out (by kernel_rfl)) (fun _ _ _ h => h) (Or.inl ⟨by rfl, ?_⟩) ?_ ?_
      rotate_left
      ·intro w'
       go_simp
       with_reducible rfl
      rotate_left
      ·simp only [Act.put, List.setIfInBounds_toArray, List.set_cons_zero, List.set_cons_succ, i64_w, i32_w]
       rfl
      refine pure_ (i := 3) (N := some 17) (v := ?_) (a' := ?_) #[true, true, true, true, false, false, false, false] rfl rfl (any_of HT_.out (by kernel_rfl)) (fun _ _ _ h => h) (Or.inl ⟨by rfl, ?_⟩) ?_ ?_
      rotate_left
      ·intro w'
       go_simp
       with_reducible rfl
      rotate_left
      ·simp only [Act.put, List.setIfInBounds_toArray, List.set_cons_zero, List.set_cons_succ, i64_w, i32_w]
       rfl
      refine pure_ (i := 5) (N := some 19) (v := ?_) (a' := ?_) #[true, true, true, true, false, true, false, false] rfl rfl (any_of HT_.out (by kernel_rfl)) (fun _ _ _ h => h) (Or.inl ⟨by rfl, ?_⟩) ?_ ?_
      rotate_left
      ·intro w'
       go_simp
       with_reducible rfl
      rotate_left
      ·simp only [Act.put, List.setIfInBounds_toArray, List.set_cons_zero, List.set_cons_succ, i64_w, i32_w]
       rfl
      refine take_ (i := 4) (N := some 18) (v := ?_) (a' := ?_) #[true, true, true, true, true, true, false, false] rfl rfl (take_ofW HT_.out HW_.out (by kernel_rfl)) (fun _ _ _ h => h) (Or.inl ⟨by rfl, ?_⟩) hHeld ?_ ?_
      rotate_left
      ·rintro w' ⟨s0, s1, s2, s3, s4, s5, s6, s7, s8, s9, s10, s11, s12, s13, s14, s15⟩
       go_simp
       with_reducible rfl
      rotate_left
      ·simp only [Act.put, List.setIfInBounds_toArray, List.set_cons_zero, List.set_cons_succ, i64_w, i32_w]
       rfl
      refine take_ (i := 6) (N := some 20) (v := ?_) (a' := ?_) #[true, true, true, true, true, true, true, false] rfl rfl (take_ofW HT_.out HW_.out (by kernel_rfl)) (fun _ _ _ h => h) (Or.inl ⟨by rfl, ?_⟩) hHeld ?_ ?_
      rotate_left
      ·rintro w' ⟨s0, s1, s2, s3, s4, s5, s6, s7, s8, s9, s10, s11, s12, s13, s14, s15⟩
       go_simp
       with_reducible rfl
      rotate_left
      ·simp only [Act.put, List.setIfInBounds_toArray, List.set_cons_zero, List.set_cons_succ, i64_w, i32_w]
       rfl
      refine one_ (i := 7) (N := some 21) #[true, true, true, true, true, true, true, true] rfl rfl (one_of HT_.out (by kernel_rfl)) (by decide) (fun K hK => ?_)
      refine goes_ Try.func42 (by kernel_rfl) rfl #[.agg #[.bool ((rd_T38 l0 x4_1).f2.f0), .int .i64 ((rd_T38 l0 x4_1).f2.f1), .string ((rd_T38 l0 x4_1).f2.f2)], .agg #[.bool x254002_1, .int .i64 x254003_1, .string x254004_1]] (by rfl) rfl rfl (by (try simp only [List.map_toArray, List.map_cons, List.map_nil]); first | done | rfl | (simp only [List.length_drop, List.length_take]; rfl)) ?_
      with_reducible refine (tithebarnref02_Ahead_c.calls ((rd_T38 l0 x4_1).f2.f0) ((rd_T38 l0 x4_1).f2.f1) ((rd_T38 l0 x4_1).f2.f2) x254002_1 x254003_1 x254004_1 t255 _ A9.out).mono ?_
      rintro e w12 ⟨rfl, hb⟩
      refine ⟨_, rfl, ?_⟩
      have n0_ := Aside0.mk (blk_below (g := gb251) (o := .cells #[.int .i64 0, .int .i64 0, .bool false, .int .i64 0, .string (⟨#[]⟩ : ByteArray), .bool false, .int .i64 0, .string (⟨#[]⟩ : ByteArray)] 38 (0, 0)) (by (with_reducible repeat (first | refine blk_drewN ?_ _ | refine blk_drew ?_ | refine blk_alloc ?_ _)); exact BK251.out) hb)
      have n1_ := Aside0.mk (blk_below (g := gb253) (o := .cells #[.int .i64 ((rd_T38 l0 0).f0), .int .i64 ((rd_T38 l0 0).f1), .bool x254002_1, .int .i64 x254003_1, .string x254004_1, .bool x254005_1, .int .i64 x254006_1, .string x254007_1] 38 (0, 0)) (by (with_reducible repeat (first | refine blk_drewN ?_ _ | refine blk_drew ?_ | refine blk_alloc ?_ _)); exact BK253.out) hb)
      have n2_ := Aside0.mk (below_step (by with_reducible repeat first | exact HB.out | apply below_alloc | apply pw_below_drewN | apply below_drew1 | refine below_set ?_ GE251.out | refine below_set ?_ GE253.out) hb)
      clear BK251
      clear BK253
      clear HB
      have BK251 := n0_
      have BK253 := n1_
      have HB := n2_
      clear n0_ n1_ n2_
      (try clear hb)
      (try clear hb2)
      (try clear hk)
      (try clear hi)
      refine hK.out _ _ ⟨(blk_cell BK253.out 0).trans rfl, (blk_cell BK253.out 1).trans rfl, (blk_cell BK253.out 2).trans rfl, (blk_cell BK253.out 3).trans rfl, (blk_cell BK253.out 4).trans rfl, (blk_cell BK253.out 5).trans rfl, (blk_cell BK253.out 6).trans rfl, (blk_cell BK253.out 7).trans rfl, (pw_cell_below HB.out hw254_0), (pw_cell_below HB.out hw254_1), (pw_cell_below HB.out hw254_2), (pw_cell_below HB.out hw254_3), (pw_cell_below HB.out hw254_4), (pw_cell_below HB.out hw254_5), (pw_cell_below HB.out hw254_6), (pw_cell_below HB.out hw254_7)⟩ (fun hHeld => ?_)
      clear hK K
      refine norm_ (a' := ?_) ?_ ?_
      rotate_left
      ·show Act.put _ (some 21) _ = _
       simp only [Act.put, List.setIfInBounds_toArray, List.set_cons_zero, List.set_cons_succ, i64_w, i32_w]
       rfl
      refine done_ (done_of HT_.out (by kernel_rfl)) ?_
      go_upto_if 21 with (fail)
      go_cut [] (fun wc => ∃ (kq : Nat) (x254002_9 : Bool) (x254003_9 : Int) (x254004_9 : ByteArray), Aside0 (tithebarnref17_span.j1 kq l0 x4_1 ((rd_T38 l0 0).f0) ((rd_T38 l0 0).f1) x254002_9 x254003_9 x254004_9 x254005_1 x254006_1 x254007_1 = some (r1, r2, r3, r4, r5, r6, r7, r8)) ∧ Aside0 (kq ≤ k1) ∧ Aside0 (wc.heap[gb251]? = some (.cells #[.int .i64 0, .int .i64 0, .bool false, .int .i64 0, .string (⟨#[]⟩ : ByteArray), .bool false, .int .i64 0, .string (⟨#[]⟩ : ByteArray)] 38 (0, 0))) ∧ Aside0 (wc.heap[gb253]? = some (.cells #[.int .i64 ((rd_T38 l0 0).f0), .int .i64 ((rd_T38 l0 0).f1), .bool x254002_9, .int .i64 x254003_9, .string x254004_9, .bool x254005_1, .int .i64 x254006_1, .string x254007_1] 38 (0, 0))) ∧ Aside0 (Below w.heap.size w wc))
      case first =>
       have H := HC10.out
       clear HC10
       by_cases c13 : t255 = true
       ·subst c13
        have H1 : (tithebarnref17_span.j1 k1 l0 x4_1 ((rd_T38 l0 0).f0) ((rd_T38 l0 0).f1) ((rd_T38 l0 x4_1).f2.f0) ((rd_T38 l0 x4_1).f2.f1) ((rd_T38 l0 x4_1).f2.f2) x254005_1 x254006_1 x254007_1) = some (r1, r2, r3, r4, r5, r6, r7, r8) := by rw [if_pos rfl] at H; exact H
        clear H
        have H := H1
        clear H1
        have H' := Aside0.mk H
        clear H
        have p256 : 0 ≤ (x4_1 : Int) := of_decide_eq_true (by with_reducible assumption)
        have q256 : x4_1 < (l0.length : Int) := of_decide_eq_true (by with_reducible assumption)
        obtain ⟨ad256, e256, hx256_0, hx256_1, hx256_2, hx256_3, hx256_4, hx256_5, hx256_6, hx256_7⟩ := at_T38 HR0.out x4_1 p256 q256
        obtain rfl : ad252 = ad256 := (by injection e256)
        replace hx256_0 := pw_cell_below HB.out hx256_0
        replace hx256_1 := pw_cell_below HB.out hx256_1
        replace hx256_2 := pw_cell_below HB.out hx256_2
        replace hx256_3 := pw_cell_below HB.out hx256_3
        replace hx256_4 := pw_cell_below HB.out hx256_4
        replace hx256_5 := pw_cell_below HB.out hx256_5
        replace hx256_6 := pw_cell_below HB.out hx256_6
        replace hx256_7 := pw_cell_below HB.out hx256_7
        replace p256 := eq_true p256
        replace q256 := eq_true q256
        have hnb14 := NB253_251.out
        have hnc14 := NB251_253.out
        obtain ⟨hcz15_0, hcz15_1, hcz15_2, hcz15_3, hcz15_4, hcz15_5, hcz15_6, hcz15_7⟩ := bc8 BK253.out
        obtain ⟨hfz15_0, hfz15_1, hfz15_2, hfz15_3, hfz15_4, hfz15_5, hfz15_6, hfz15_7⟩ := bf8 BK253.out
        go_wp2
        go_meet
        case rel => exact ⟨_, ((rd_T38 l0 x4_1).f2.f0), ((rd_T38 l0 x4_1).f2.f1), ((rd_T38 l0 x4_1).f2.f2), H', ⟨by have := HK1.out; first | omega | exact Nat.le_refl _⟩, ⟨by (iterate 3 (refine blk_far ?_ NB251_253.out _)); (with_reducible repeat (first | refine blk_drewN ?_ _ | refine blk_drew ?_ | refine blk_alloc ?_ _)); exact BK251.out⟩, ⟨by refine blk_put (cs := #[.int .i64 ((rd_T38 l0 0).f0), .int .i64 ((rd_T38 l0 0).f1), .bool ((rd_T38 l0 x4_1).f2.f0), .int .i64 ((rd_T38 l0 x4_1).f2.f1), .string x254004_1, .bool x254005_1, .int .i64 x254006_1, .string x254007_1]) ?_ 4 _ rfl; refine blk_put (cs := #[.int .i64 ((rd_T38 l0 0).f0), .int .i64 ((rd_T38 l0 0).f1), .bool ((rd_T38 l0 x4_1).f2.f0), .int .i64 x254003_1, .string x254004_1, .bool x254005_1, .int .i64 x254006_1, .string x254007_1]) ?_ 3 _ rfl; refine blk_put (cs := #[.int .i64 ((rd_T38 l0 0).f0), .int .i64 ((rd_T38 l0 0).f1), .bool x254002_1, .int .i64 x254003_1, .string x254004_1, .bool x254005_1, .int .i64 x254006_1, .string x254007_1]) ?_ 2 _ rfl; (with_reducible repeat (first | refine blk_drewN ?_ _ | refine blk_drew ?_ | refine blk_alloc ?_ _)); exact BK253.out⟩, ⟨by repeat (first | (with_reducible first | exact HB.out | apply below_alloc | apply pw_below_drewN | apply below_drew1 | refine below_set ?_ GE251.out | refine below_set ?_ GE253.out) | exact HB.out)⟩⟩
       ·replace c13 := Bool.eq_false_iff.mpr c13
        subst c13
        have H1 : (tithebarnref17_span.j1 k1 l0 x4_1 ((rd_T38 l0 0).f0) ((rd_T38 l0 0).f1) x254002_1 x254003_1 x254004_1 x254005_1 x254006_1 x254007_1) = some (r1, r2, r3, r4, r5, r6, r7, r8) := by rw [if_neg (show ¬ (false = true) by decide)] at H; exact H
        clear H
        have H := H1
        clear H1
        have H' := Aside0.mk H
        clear H
        go_wp2
        go_meet
        case rel => exact ⟨_, (x254002_1), (x254003_1), (x254004_1), H', ⟨by have := HK1.out; first | omega | exact Nat.le_refl _⟩, ⟨by (with_reducible repeat (first | refine blk_drewN ?_ _ | refine blk_drew ?_ | refine blk_alloc ?_ _)); exact BK251.out⟩, ⟨by (with_reducible repeat (first | refine blk_drewN ?_ _ | refine blk_drew ?_ | refine blk_alloc ?_ _)); exact BK253.out⟩, ⟨by repeat (first | (with_reducible first | exact HB.out | apply below_alloc | apply pw_below_drewN | apply below_drew1 | refine below_set ?_ GE251.out | refine below_set ?_ GE253.out) | exact HB.out)⟩⟩
      case rest =>
       clear HC10
       try clear c1
       try clear c2
       try clear c2b0
       try clear c2b1
       try clear p2
       try clear q2
       try clear hx2
       try clear qi2
       try clear c4
       try clear c5
       try clear c7
       try clear c7b0
       try clear c8
       try clear c8b0
       try clear c13
       try clear c14
       try clear hcz15_0 hcz15_1 hcz15_2 hcz15_3 hcz15_4 hcz15_5 hcz15_6 hcz15_7
       try clear hcz6_0 hcz6_1 hcz6_2 hcz6_3 hcz6_4 hcz6_5 hcz6_6 hcz6_7
       try clear hfz15_0 hfz15_1 hfz15_2 hfz15_3 hfz15_4 hfz15_5 hfz15_6 hfz15_7
       try clear hfz6_0 hfz6_1 hfz6_2 hfz6_3 hfz6_4 hfz6_5 hfz6_6 hfz6_7
       try clear hx252_0 hx252_1 hx252_2 hx252_3 hx252_4 hx252_5 hx252_6 hx252_7
       try clear hx254_0 hx254_1 hx254_2 hx254_3 hx254_4 hx254_5 hx254_6 hx254_7
       try clear hx256_0 hx256_1 hx256_2 hx256_3 hx256_4 hx256_5 hx256_6 hx256_7
       try clear p2
       try clear p252
       try clear p254
       try clear p256
       try clear q2
       try clear q252
       try clear q254
       try clear q256
       obtain ⟨kq, x254002_9, x254003_9, x254004_9, HA, HJ9, BK251, BK253, HB⟩ := hcut
       cases kq with
       | zero => exact absurd HA.out (by simp [tithebarnref17_span.j1])
       | succ kj9 =>
        have H := HA.out
        clear HA
        simp only [tithebarnref17_span.j1] at H
        by_cases c16 : 0 ≤ x4_1
        ·rw [if_pos c16] at H
         have c16b0 : decide (0 ≤ x4_1) = true := decide_eq_true c16
         clear c16
         by_cases c17 : x4_1 < (l0.length : Int)
         ·rw [if_pos c17] at H
          have c17b0 : decide (x4_1 < (l0.length : Int)) = true := decide_eq_true c17
          clear c17
          replace H := Option.bind_eq_some_iff.mp H
          obtain ⟨t258, A180, H⟩ := H
          replace H : (if t258 = true then (tithebarnref17_span.l0 kj9 l0 (wrap64 (x4_1 + 1)) ((rd_T38 l0 0).f0) ((rd_T38 l0 0).f1) x254002_9 x254003_9 x254004_9 ((rd_T38 l0 x4_1).f3.f0) ((rd_T38 l0 x4_1).f3.f1) ((rd_T38 l0 x4_1).f3.f2)) else (tithebarnref17_span.l0 kj9 l0 (wrap64 (x4_1 + 1)) ((rd_T38 l0 0).f0) ((rd_T38 l0 0).f1) x254002_9 x254003_9 x254004_9 x254005_1 x254006_1 x254007_1)) = some (r1, r2, r3, r4, r5, r6, r7, r8) := H
          have A18 := Aside0.mk A180
          clear A180
          by_cases c19 : t258 = true
          ·subst c19
           have H1 : (tithebarnref17_span.l0 kj9 l0 (wrap64 (x4_1 + 1)) ((rd_T38 l0 0).f0) ((rd_T38 l0 0).f1) x254002_9 x254003_9 x254004_9 ((rd_T38 l0 x4_1).f3.f0) ((rd_T38 l0 x4_1).f3.f1) ((rd_T38 l0 x4_1).f3.f2)) = some (r1, r2, r3, r4, r5, r6, r7, r8) := by rw [if_pos rfl] at H; exact H
           clear H
           have H := H1
           clear H1
           have H' := Aside0.mk H
           clear H
           try go_wp2
           have n0_ := Aside0.mk (blk_drew BK251.out)
           have n1_ := Aside0.mk (blk_drew BK253.out)
           have n2_ := Aside0.mk (below_drew1 HB.out)
           clear BK251
           clear BK253
           clear HB
           have BK251 := n0_
           have BK253 := n1_
           have HB := n2_
           clear n0_ n1_ n2_
           have p257 : 0 ≤ (x4_1 : Int) := of_decide_eq_true (by with_reducible assumption)
           have q257 : x4_1 < (l0.length : Int) := of_decide_eq_true (by with_reducible assumption)
           obtain ⟨ad257, e257, hx257_0, hx257_1, hx257_2, hx257_3, hx257_4, hx257_5, hx257_6, hx257_7⟩ := at_T38 HR0.out x4_1 p257 q257
           have hw257_7 := hx257_7
           have hw257_6 := hx257_6
           have hw257_5 := hx257_5
           have hw257_4 := hx257_4
           have hw257_3 := hx257_3
           have hw257_2 := hx257_2
           have hw257_1 := hx257_1
           have hw257_0 := hx257_0
           obtain rfl : ad252 = ad257 := (by injection e257)
           replace hx257_0 := pw_cell_below HB.out hx257_0
           replace hx257_1 := pw_cell_below HB.out hx257_1
           replace hx257_2 := pw_cell_below HB.out hx257_2
           replace hx257_3 := pw_cell_below HB.out hx257_3
           replace hx257_4 := pw_cell_below HB.out hx257_4
           replace hx257_5 := pw_cell_below HB.out hx257_5
           replace hx257_6 := pw_cell_below HB.out hx257_6
           replace hx257_7 := pw_cell_below HB.out hx257_7
           replace p257 := eq_true p257
           replace q257 := eq_true q257
           refine start_ (n := 8) (S := fun w' => w'.cell? ⟨gb253, 0, none⟩ = some (.int .i64 ((rd_T38 l0 0).f0)) ∧ w'.cell? ⟨gb253, 1, none⟩ = some (.int .i64 ((rd_T38 l0 0).f1)) ∧ w'.cell? ⟨gb253, 2, none⟩ = some (.bool x254002_9) ∧ w'.cell? ⟨gb253, 3, none⟩ = some (.int .i64 x254003_9) ∧ w'.cell? ⟨gb253, 4, none⟩ = some (.string x254004_9) ∧ w'.cell? ⟨gb253, 5, none⟩ = some (.bool x254005_1) ∧ w'.cell? ⟨gb253, 6, none⟩ = some (.int .i64 x254006_1) ∧ w'.cell? ⟨gb253, 7, none⟩ = some (.string x254007_1) ∧ w'.cell? (ad252.add ((x4_1).toNat * 8)) = some (.int .i64 ((rd_T38 l0 x4_1).f0)) ∧ w'.cell? ⟨(ad252.add ((x4_1).toNat * 8)).block, (ad252.add ((x4_1).toNat * 8)).off + 1, none⟩ = some (.int .i64 ((rd_T38 l0 x4_1).f1)) ∧ w'.cell? ⟨(ad252.add ((x4_1).toNat * 8)).block, (ad252.add ((x4_1).toNat * 8)).off + 2, none⟩ = some (.bool ((rd_T38 l0 x4_1).f2.f0)) ∧ w'.cell? ⟨(ad252.add ((x4_1).toNat * 8)).block, (ad252.add ((x4_1).toNat * 8)).off + 3, none⟩ = some (.int .i64 ((rd_T38 l0 x4_1).f2.f1)) ∧ w'.cell? ⟨(ad252.add ((x4_1).toNat * 8)).block, (ad252.add ((x4_1).toNat * 8)).off + 4, none⟩ = some (.string ((rd_T38 l0 x4_1).f2.f2)) ∧ w'.cell? ⟨(ad252.add ((x4_1).toNat * 8)).block, (ad252.add ((x4_1).toNat * 8)).off + 5, none⟩ = some (.bool ((rd_T38 l0 x4_1).f3.f0)) ∧ w'.cell? ⟨(ad252.add ((x4_1).toNat * 8)).block, (ad252.add ((x4_1).toNat * 8)).off + 6, none⟩ = some (.int .i64 ((rd_T38 l0 x4_1).f3.f1)) ∧ w'.cell? ⟨(ad252.add ((x4_1).toNat * 8)).block, (ad252.add ((x4_1).toNat * 8)).off + 7, none⟩ = some (.string ((rd_T38 l0 x4_1).f3.f2))) (ds := []) #[false, false, false, false, false, false, false, false] (by kernel_rfl) rfl rfl ⟨(blk_cell BK253.out 0).trans rfl, (blk_cell BK253.out 1).trans rfl, (blk_cell BK253.out 2).trans rfl, (blk_cell BK253.out 3).trans rfl, (blk_cell BK253.out 4).trans rfl, (blk_cell BK253.out 5).trans rfl, (blk_cell BK253.out 6).trans rfl, (blk_cell BK253.out 7).trans rfl, (pw_cell_below HB.out hw257_0), (pw_cell_below HB.out hw257_1), (pw_cell_below HB.out hw257_2), (pw_cell_below HB.out hw257_3), (pw_cell_below HB.out hw257_4), (pw_cell_below HB.out hw257_5), (pw_cell_below HB.out hw257_6), (pw_cell_below HB.out hw257_7)⟩ (fun hHeld => ?_); refine with_tabW tithebarnref17_span.tab7 tithebarnref17_span.bits7 (fun HT_ HW_ => ?_)
           generalize wc.drew = w20 at BK251 BK253 HB hx257_0 hx257_1 hx257_2 hx257_3 hx257_4 hx257_5 hx257_6 hx257_7 hHeld ⊢
           refine pure_ (i := 0) (N := some 28) (v := ?_) (a' := ?_) #[true, false, false, false, false, false, false, false] rfl rfl (any_of HT_.out (by kernel_rfl)) (fun _ _ _ h => h) (Or.inl ⟨by rfl, ?_⟩) ?_ ?_
           rotate_left
           ·intro w'
            go_simp
            with_reducible rfl
           rotate_left
           ·simp only [Act.put, List.setIfInBounds_toArray, List.set_cons_zero, List.set_cons_succ, i64_w, i32_w]
            rfl
           refine pure_ (i := 2) (N := some 30) (v := ?_) (a' := ?_) #[true, false, true, false, false, false, false, false] rfl rfl (any_of HT_.out (by kernel_rfl)) (fun _ _ _ h => h) (Or.inl ⟨by rfl, ?_⟩) ?_ ?_
           rotate_left
           ·intro w'
            go_simp
            with_reducible rfl
           rotate_left
           ·simp only [Act.put, List.setIfInBounds_toArray, List.set_cons_zero, List.set_cons_succ, i64_w, i32_w]
            rfl
           refine pure_ (i := 3) (N := some 31) (v := ?_) (a' := ?_) #[true, false, true, true, false, false, false, false] rfl rfl (any_of HT_.out (by kernel_rfl)) (fun _ _ _ h => h) (Or.inl ⟨by rfl, ?_⟩) ?_ ?_
           rotate_left
           ·intro w'
            go_simp
            with_reducible rfl
           rotate_left
           ·simp only [Act.put, List.setIfInBounds_toArray, List.set_cons_zero, List.set_cons_succ, i64_w, i32_w]
            rfl
           refine pure_ (i := 4) (N := some 32) (v := ?_) (a' := ?_) #[true, false, true, true, true, false, false, false] rfl rfl (any_of HT_.out (by kernel_rfl)) (fun _ _ _ h => h) (Or.inl ⟨by rfl, ?_⟩) ?_ ?_
           rotate_left
           ·intro w'
            go_simp
            with_reducible rfl
           rotate_left
           ·simp only [Act.put, List.setIfInBounds_toArray, List.set_cons_zero, List.set_cons_succ, i64_w, i32_w]
            rfl
           refine pure_ (i := 5) (N := some 33) (v := ?_) (a' := ?_) #[true, false, true, true, true, true, false, false] rfl rfl (any_of HT_.out (by kernel_rfl)) (fun _ _ _ h => h) (Or.inl ⟨by rfl, ?_⟩) ?_ ?_
           rotate_left
           ·intro w'
            go_simp
            with_reducible rfl
           rotate_left
           ·simp only [Act.put, List.setIfInBounds_toArray, List.set_cons_zero, List.set_cons_succ, i64_w, i32_w]
            rfl
           refine take_ (i := 1) (N := some 29) (v := ?_) (a' := ?_) #[true, true, true, true, true, true, false, false] rfl rfl (take_ofW HT_.out HW_.out (by kernel_rfl)) (fun _ _ _ h => h) (Or.inl ⟨by rfl, ?_⟩) hHeld ?_ ?_
           rotate_left
           ·rintro w' ⟨s0, s1, s2, s3, s4, s5, s6, s7, s8, s9, s10, s11, s12, s13, s14, s15⟩
            go_simp
            with_reducible rfl
           rotate_left
           ·simp only [Act.put, List.setIfInBounds_toArray, List.set_cons_zero, List.set_cons_succ, i64_w, i32_w]
            rfl
           refine take_ (i := 6) (N := some 34) (v := ?_) (a' := ?_) #[true, true, true, true, true, true, true, false] rfl rfl (take_ofW HT_.out HW_.out (by kernel_rfl)) (fun _ _ _ h => h) (Or.inl ⟨by rfl, ?_⟩) hHeld ?_ ?_
           rotate_left
           ·rintro w' ⟨s0, s1, s2, s3, s4, s5, s6, s7, s8, s9, s10, s11, s12, s13, s14, s15⟩
            go_simp
            with_reducible rfl
           rotate_left
           ·simp only [Act.put, List.setIfInBounds_toArray, List.set_cons_zero, List.set_cons_succ, i64_w, i32_w]
            rfl
           refine one_ (i := 7) (N := some 35) #[true, true, true, true, true, true, true, true] rfl rfl (one_of HT_.out (by kernel_rfl)) (by decide) (fun K hK => ?_)
           refine goes_ Try.func42 (by kernel_rfl) rfl #[.agg #[.bool x254005_1, .int .i64 x254006_1, .string x254007_1], .agg #[.bool ((rd_T38 l0 x4_1).f3.f0), .int .i64 ((rd_T38 l0 x4_1).f3.f1), .string ((rd_T38 l0 x4_1).f3.f2)]] (by rfl) rfl rfl (by (try simp only [List.map_toArray, List.map_cons, List.map_nil]); first | done | rfl | (simp only [List.length_drop, List.length_take]; rfl)) ?_
           with_reducible refine (tithebarnref02_Ahead_c.calls x254005_1 x254006_1 x254007_1 ((rd_T38 l0 x4_1).f3.f0) ((rd_T38 l0 x4_1).f3.f1) ((rd_T38 l0 x4_1).f3.f2) true _ A18.out).mono ?_
           rintro e w21 ⟨rfl, hb⟩
           refine ⟨_, rfl, ?_⟩
           have n0_ := Aside0.mk (blk_below (g := gb251) (o := .cells #[.int .i64 0, .int .i64 0, .bool false, .int .i64 0, .string (⟨#[]⟩ : ByteArray), .bool false, .int .i64 0, .string (⟨#[]⟩ : ByteArray)] 38 (0, 0)) (by (with_reducible repeat (first | refine blk_drewN ?_ _ | refine blk_drew ?_ | refine blk_alloc ?_ _)); exact BK251.out) hb)
           have n1_ := Aside0.mk (blk_below (g := gb253) (o := .cells #[.int .i64 ((rd_T38 l0 0).f0), .int .i64 ((rd_T38 l0 0).f1), .bool x254002_9, .int .i64 x254003_9, .string x254004_9, .bool x254005_1, .int .i64 x254006_1, .string x254007_1] 38 (0, 0)) (by (with_reducible repeat (first | refine blk_drewN ?_ _ | refine blk_drew ?_ | refine blk_alloc ?_ _)); exact BK253.out) hb)
           have n2_ := Aside0.mk (below_step (by with_reducible repeat first | exact HB.out | apply below_alloc | apply pw_below_drewN | apply below_drew1 | refine below_set ?_ GE251.out | refine below_set ?_ GE253.out) hb)
           clear BK251
           clear BK253
           clear HB
           have BK251 := n0_
           have BK253 := n1_
           have HB := n2_
           clear n0_ n1_ n2_
           (try clear hb)
           (try clear hb2)
           (try clear hk)
           (try clear hi)
           refine hK.out _ _ ⟨(blk_cell BK253.out 0).trans rfl, (blk_cell BK253.out 1).trans rfl, (blk_cell BK253.out 2).trans rfl, (blk_cell BK253.out 3).trans rfl, (blk_cell BK253.out 4).trans rfl, (blk_cell BK253.out 5).trans rfl, (blk_cell BK253.out 6).trans rfl, (blk_cell BK253.out 7).trans rfl, (pw_cell_below HB.out hw257_0), (pw_cell_below HB.out hw257_1), (pw_cell_below HB.out hw257_2), (pw_cell_below HB.out hw257_3), (pw_cell_below HB.out hw257_4), (pw_cell_below HB.out hw257_5), (pw_cell_below HB.out hw257_6), (pw_cell_below HB.out hw257_7)⟩ (fun hHeld => ?_)
           clear hK K
           refine norm_ (a' := ?_) ?_ ?_
           rotate_left
           ·show Act.put _ (some 35) _ = _
            simp only [Act.put, List.setIfInBounds_toArray, List.set_cons_zero, List.set_cons_succ, i64_w, i32_w]
            rfl
           refine done_ (done_of HT_.out (by kernel_rfl)) ?_
           have p259 : 0 ≤ (x4_1 : Int) := of_decide_eq_true (by with_reducible assumption)
           have q259 : x4_1 < (l0.length : Int) := of_decide_eq_true (by with_reducible assumption)
           obtain ⟨ad259, e259, hx259_0, hx259_1, hx259_2, hx259_3, hx259_4, hx259_5, hx259_6, hx259_7⟩ := at_T38 HR0.out x4_1 p259 q259
           obtain rfl : ad252 = ad259 := (by injection e259)
           replace hx259_0 := pw_cell_below HB.out hx259_0
           replace hx259_1 := pw_cell_below HB.out hx259_1
           replace hx259_2 := pw_cell_below HB.out hx259_2
           replace hx259_3 := pw_cell_below HB.out hx259_3
           replace hx259_4 := pw_cell_below HB.out hx259_4
           replace hx259_5 := pw_cell_below HB.out hx259_5
           replace hx259_6 := pw_cell_below HB.out hx259_6
           replace hx259_7 := pw_cell_below HB.out hx259_7
           replace p259 := eq_true p259
           replace q259 := eq_true q259
           have hnb22 := NB253_251.out
           have hnc22 := NB251_253.out
           obtain ⟨hcz23_0, hcz23_1, hcz23_2, hcz23_3, hcz23_4, hcz23_5, hcz23_6, hcz23_7⟩ := bc8 BK253.out
           obtain ⟨hfz23_0, hfz23_1, hfz23_2, hfz23_3, hfz23_4, hfz23_5, hfz23_6, hfz23_7⟩ := bf8 BK253.out
           try go_wp2
           go_roundg kj9
           case measure => have := HK1.out; have := HJ9.out; omega
           case rel => exact ⟨(wrap64 (x4_1 + 1)), (x254002_9), (x254003_9), (x254004_9), ((rd_T38 l0 x4_1).f3.f0), ((rd_T38 l0 x4_1).f3.f1), ((rd_T38 l0 x4_1).f3.f2), (by first | rfl | (simp; done) | (simp [*]; done)), H', ⟨by have := HK1.out; have := HJ9.out; omega⟩, ⟨by (iterate 3 (refine blk_far ?_ NB251_253.out _)); (with_reducible repeat (first | refine blk_drewN ?_ _ | refine blk_drew ?_ | refine blk_alloc ?_ _)); exact BK251.out⟩, ⟨by refine blk_put (cs := #[.int .i64 ((rd_T38 l0 0).f0), .int .i64 ((rd_T38 l0 0).f1), .bool x254002_9, .int .i64 x254003_9, .string x254004_9, .bool ((rd_T38 l0 x4_1).f3.f0), .int .i64 ((rd_T38 l0 x4_1).f3.f1), .string x254007_1]) ?_ 7 _ rfl; refine blk_put (cs := #[.int .i64 ((rd_T38 l0 0).f0), .int .i64 ((rd_T38 l0 0).f1), .bool x254002_9, .int .i64 x254003_9, .string x254004_9, .bool ((rd_T38 l0 x4_1).f3.f0), .int .i64 x254006_1, .string x254007_1]) ?_ 6 _ rfl; refine blk_put (cs := #[.int .i64 ((rd_T38 l0 0).f0), .int .i64 ((rd_T38 l0 0).f1), .bool x254002_9, .int .i64 x254003_9, .string x254004_9, .bool x254005_1, .int .i64 x254006_1, .string x254007_1]) ?_ 5 _ rfl; (with_reducible repeat (first | refine blk_drewN ?_ _ | refine blk_drew ?_ | refine blk_alloc ?_ _)); exact BK253.out⟩, ⟨by repeat (first | (with_reducible first | exact HB.out | apply below_alloc | apply pw_below_drewN | apply below_drew1 | refine below_set ?_ GE251.out | refine below_set ?_ GE253.out) | exact HB.out)⟩⟩
          ·replace c19 := Bool.eq_false_iff.mpr c19
           subst c19
           have H1 : (tithebarnref17_span.l0 kj9 l0 (wrap64 (x4_1 + 1)) ((rd_T38 l0 0).f0) ((rd_T38 l0 0).f1) x254002_9 x254003_9 x254004_9 x254005_1 x254006_1 x254007_1) = some (r1, r2, r3, r4, r5, r6, r7, r8) := by rw [if_neg (show ¬ (false = true) by decide)] at H; exact H
           clear H
           have H := H1
           clear H1
           have H' := Aside0.mk H
           clear H
           try go_wp2
           have n0_ := Aside0.mk (blk_drew BK251.out)
           have n1_ := Aside0.mk (blk_drew BK253.out)
           have n2_ := Aside0.mk (below_drew1 HB.out)
           clear BK251
           clear BK253
           clear HB
           have BK251 := n0_
           have BK253 := n1_
           have HB := n2_
           clear n0_ n1_ n2_
           have p257 : 0 ≤ (x4_1 : Int) := of_decide_eq_true (by with_reducible assumption)
           have q257 : x4_1 < (l0.length : Int) := of_decide_eq_true (by with_reducible assumption)
           obtain ⟨ad257, e257, hx257_0, hx257_1, hx257_2, hx257_3, hx257_4, hx257_5, hx257_6, hx257_7⟩ := at_T38 HR0.out x4_1 p257 q257
           have hw257_7 := hx257_7
           have hw257_6 := hx257_6
           have hw257_5 := hx257_5
           have hw257_4 := hx257_4
           have hw257_3 := hx257_3
           have hw257_2 := hx257_2
           have hw257_1 := hx257_1
           have hw257_0 := hx257_0
           obtain rfl : ad252 = ad257 := (by injection e257)
           replace hx257_0 := pw_cell_below HB.out hx257_0
           replace hx257_1 := pw_cell_below HB.out hx257_1
           replace hx257_2 := pw_cell_below HB.out hx257_2
           replace hx257_3 := pw_cell_below HB.out hx257_3
           replace hx257_4 := pw_cell_below HB.out hx257_4
           replace hx257_5 := pw_cell_below HB.out hx257_5
           replace hx257_6 := pw_cell_below HB.out hx257_6
           replace hx257_7 := pw_cell_below HB.out hx257_7
           replace p257 := eq_true p257
           replace q257 := eq_true q257
           refine start_ (n := 8) (S := fun w' => w'.cell? ⟨gb253, 0, none⟩ = some (.int .i64 ((rd_T38 l0 0).f0)) ∧ w'.cell? ⟨gb253, 1, none⟩ = some (.int .i64 ((rd_T38 l0 0).f1)) ∧ w'.cell? ⟨gb253, 2, none⟩ = some (.bool x254002_9) ∧ w'.cell? ⟨gb253, 3, none⟩ = some (.int .i64 x254003_9) ∧ w'.cell? ⟨gb253, 4, none⟩ = some (.string x254004_9) ∧ w'.cell? ⟨gb253, 5, none⟩ = some (.bool x254005_1) ∧ w'.cell? ⟨gb253, 6, none⟩ = some (.int .i64 x254006_1) ∧ w'.cell? ⟨gb253, 7, none⟩ = some (.string x254007_1) ∧ w'.cell? (ad252.add ((x4_1).toNat * 8)) = some (.int .i64 ((rd_T38 l0 x4_1).f0)) ∧ w'.cell? ⟨(ad252.add ((x4_1).toNat * 8)).block, (ad252.add ((x4_1).toNat * 8)).off + 1, none⟩ = some (.int .i64 ((rd_T38 l0 x4_1).f1)) ∧ w'.cell? ⟨(ad252.add ((x4_1).toNat * 8)).block, (ad252.add ((x4_1).toNat * 8)).off + 2, none⟩ = some (.bool ((rd_T38 l0 x4_1).f2.f0)) ∧ w'.cell? ⟨(ad252.add ((x4_1).toNat * 8)).block, (ad252.add ((x4_1).toNat * 8)).off + 3, none⟩ = some (.int .i64 ((rd_T38 l0 x4_1).f2.f1)) ∧ w'.cell? ⟨(ad252.add ((x4_1).toNat * 8)).block, (ad252.add ((x4_1).toNat * 8)).off + 4, none⟩ = some (.string ((rd_T38 l0 x4_1).f2.f2)) ∧ w'.cell? ⟨(ad252.add ((x4_1).toNat * 8)).block, (ad252.add ((x4_1).toNat * 8)).off + 5, none⟩ = some (.bool ((rd_T38 l0 x4_1).f3.f0)) ∧ w'.cell? ⟨(ad252.add ((x4_1).toNat * 8)).block, (ad252.add ((x4_1).toNat * 8)).off + 6, none⟩ = some (.int .i64 ((rd_T38 l0 x4_1).f3.f1)) ∧ w'.cell? ⟨(ad252.add ((x4_1).toNat * 8)).block, (ad252.add ((x4_1).toNat * 8)).off + 7, none⟩ = some (.string ((rd_T38 l0 x4_1).f3.f2))) (ds := []) #[false, false, false, false, false, false, false, false] (by kernel_rfl) rfl rfl ⟨(blk_cell BK253.out 0).trans rfl, (blk_cell BK253.out 1).trans rfl, (blk_cell BK253.out 2).trans rfl, (blk_cell BK253.out 3).trans rfl, (blk_cell BK253.out 4).trans rfl, (blk_cell BK253.out 5).trans rfl, (blk_cell BK253.out 6).trans rfl, (blk_cell BK253.out 7).trans rfl, (pw_cell_below HB.out hw257_0), (pw_cell_below HB.out hw257_1), (pw_cell_below HB.out hw257_2), (pw_cell_below HB.out hw257_3), (pw_cell_below HB.out hw257_4), (pw_cell_below HB.out hw257_5), (pw_cell_below HB.out hw257_6), (pw_cell_below HB.out hw257_7)⟩ (fun hHeld => ?_); refine with_tabW tithebarnref17_span.tab7 tithebarnref17_span.bits7 (fun HT_ HW_ => ?_)
           generalize wc.drew = w24 at BK251 BK253 HB hx257_0 hx257_1 hx257_2 hx257_3 hx257_4 hx257_5 hx257_6 hx257_7 hHeld ⊢
           refine pure_ (i := 0) (N := some 28) (v := ?_) (a' := ?_) #[true, false, false, false, false, false, false, false] rfl rfl (any_of HT_.out (by kernel_rfl)) (fun _ _ _ h => h) (Or.inl ⟨by rfl, ?_⟩) ?_ ?_
           rotate_left
           ·intro w'
            go_simp
            with_reducible rfl
           rotate_left
           ·simp only [Act.put, List.setIfInBounds_toArray, List.set_cons_zero, List.set_cons_succ, i64_w, i32_w]
            rfl
           refine pure_ (i := 2) (N := some 30) (v := ?_) (a' := ?_) #[true, false, true, false, false, false, false, false] rfl rfl (any_of HT_.out (by kernel_rfl)) (fun _ _ _ h => h) (Or.inl ⟨by rfl, ?_⟩) ?_ ?_
           rotate_left
           ·intro w'
            go_simp
            with_reducible rfl
           rotate_left
           ·simp only [Act.put, List.setIfInBounds_toArray, List.set_cons_zero, List.set_cons_succ, i64_w, i32_w]
            rfl
           refine pure_ (i := 3) (N := some 31) (v := ?_) (a' := ?_) #[true, false, true, true, false, false, false, false] rfl rfl (any_of HT_.out (by kernel_rfl)) (fun _ _ _ h => h) (Or.inl ⟨by rfl, ?_⟩) ?_ ?_
           rotate_left
           ·intro w'
            go_simp
            with_reducible rfl
           rotate_left
           ·simp only [Act.put, List.setIfInBounds_toArray, List.set_cons_zero, List.set_cons_succ, i64_w, i32_w]
            rfl
           refine pure_ (i := 4) (N := some 32) (v := ?_) (a' := ?_) #[true, false, true, true, true, false, false, false] rfl rfl (any_of HT_.out (by kernel_rfl)) (fun _ _ _ h => h) (Or.inl ⟨by rfl, ?_⟩) ?_ ?_
           rotate_left
           ·intro w'
            go_simp
            with_reducible rfl
           rotate_left
           ·simp only [Act.put, List.setIfInBounds_toArray, List.set_cons_zero, List.set_cons_succ, i64_w, i32_w]
            rfl
           refine pure_ (i := 5) (N := some 33) (v := ?_) (a' := ?_) #[true, false, true, true, true, true, false, false] rfl rfl (any_of HT_.out (by kernel_rfl)) (fun _ _ _ h => h) (Or.inl ⟨by rfl, ?_⟩) ?_ ?_
           rotate_left
           ·intro w'
            go_simp
            with_reducible rfl
           rotate_left
           ·simp only [Act.put, List.setIfInBounds_toArray, List.set_cons_zero, List.set_cons_succ, i64_w, i32_w]
            rfl
           refine take_ (i := 1) (N := some 29) (v := ?_) (a' := ?_) #[true, true, true, true, true, true, false, false] rfl rfl (take_ofW HT_.out HW_.out (by kernel_rfl)) (fun _ _ _ h => h) (Or.inl ⟨by rfl, ?_⟩) hHeld ?_ ?_
           rotate_left
           ·rintro w' ⟨s0, s1, s2, s3, s4, s5, s6, s7, s8, s9, s10, s11, s12, s13, s14, s15⟩
            go_simp
            with_reducible rfl
           rotate_left
           ·simp only [Act.put, List.setIfInBounds_toArray, List.set_cons_zero, List.set_cons_succ, i64_w, i32_w]
            rfl
           refine take_ (i := 6) (N := some 34) (v := ?_) (a' := ?_) #[true, true, true, true, true, true, true, false] rfl rfl (take_ofW HT_.out HW_.out (by kernel_rfl)) (fun _ _ _ h => h) (Or.inl ⟨by rfl, ?_⟩) hHeld ?_ ?_
           rotate_left
           ·rintro w' ⟨s0, s1, s2, s3, s4, s5, s6, s7, s8, s9, s10, s11, s12, s13, s14, s15⟩
            go_simp
            with_reducible rfl
           rotate_left
           ·simp only [Act.put, List.setIfInBounds_toArray, List.set_cons_zero, List.set_cons_succ, i64_w, i32_w]
            rfl
           refine one_ (i := 7) (N := some 35) #[true, true, true, true, true, true, true, true] rfl rfl (one_of HT_.out (by kernel_rfl)) (by decide) (fun K hK => ?_)
           refine goes_ Try.func42 (by kernel_rfl) rfl #[.agg #[.bool x254005_1, .int .i64 x254006_1, .string x254007_1], .agg #[.bool ((rd_T38 l0 x4_1).f3.f0), .int .i64 ((rd_T38 l0 x4_1).f3.f1), .string ((rd_T38 l0 x4_1).f3.f2)]] (by rfl) rfl rfl (by (try simp only [List.map_toArray, List.map_cons, List.map_nil]); first | done | rfl | (simp only [List.length_drop, List.length_take]; rfl)) ?_
           with_reducible refine (tithebarnref02_Ahead_c.calls x254005_1 x254006_1 x254007_1 ((rd_T38 l0 x4_1).f3.f0) ((rd_T38 l0 x4_1).f3.f1) ((rd_T38 l0 x4_1).f3.f2) false _ A18.out).mono ?_
           rintro e w25 ⟨rfl, hb⟩
           refine ⟨_, rfl, ?_⟩
           have n0_ := Aside0.mk (blk_below (g := gb251) (o := .cells #[.int .i64 0, .int .i64 0, .bool false, .int .i64 0, .string (⟨#[]⟩ : ByteArray), .bool false, .int .i64 0, .string (⟨#[]⟩ : ByteArray)] 38 (0, 0)) (by (with_reducible repeat (first | refine blk_drewN ?_ _ | refine blk_drew ?_ | refine blk_alloc ?_ _)); exact BK251.out) hb)
           have n1_ := Aside0.mk (blk_below (g := gb253) (o := .cells #[.int .i64 ((rd_T38 l0 0).f0), .int .i64 ((rd_T38 l0 0).f1), .bool x254002_9, .int .i64 x254003_9, .string x254004_9, .bool x254005_1, .int .i64 x254006_1, .string x254007_1] 38 (0, 0)) (by (with_reducible repeat (first | refine blk_drewN ?_ _ | refine blk_drew ?_ | refine blk_alloc ?_ _)); exact BK253.out) hb)
           have n2_ := Aside0.mk (below_step (by with_reducible repeat first | exact HB.out | apply below_alloc | apply pw_below_drewN | apply below_drew1 | refine below_set ?_ GE251.out | refine below_set ?_ GE253.out) hb)
           clear BK251
           clear BK253
           clear HB
           have BK251 := n0_
           have BK253 := n1_
           have HB := n2_
           clear n0_ n1_ n2_
           (try clear hb)
           (try clear hb2)
           (try clear hk)
           (try clear hi)
           refine hK.out _ _ ⟨(blk_cell BK253.out 0).trans rfl, (blk_cell BK253.out 1).trans rfl, (blk_cell BK253.out 2).trans rfl, (blk_cell BK253.out 3).trans rfl, (blk_cell BK253.out 4).trans rfl, (blk_cell BK253.out 5).trans rfl, (blk_cell BK253.out 6).trans rfl, (blk_cell BK253.out 7).trans rfl, (pw_cell_below HB.out hw257_0), (pw_cell_below HB.out hw257_1), (pw_cell_below HB.out hw257_2), (pw_cell_below HB.out hw257_3), (pw_cell_below HB.out hw257_4), (pw_cell_below HB.out hw257_5), (pw_cell_below HB.out hw257_6), (pw_cell_below HB.out hw257_7)⟩ (fun hHeld => ?_)
           clear hK K
           refine norm_ (a' := ?_) ?_ ?_
           rotate_left
           ·show Act.put _ (some 35) _ = _
            simp only [Act.put, List.setIfInBounds_toArray, List.set_cons_zero, List.set_cons_succ, i64_w, i32_w]
            rfl
           refine done_ (done_of HT_.out (by kernel_rfl)) ?_
           try go_wp2
           go_roundg kj9
           case measure => have := HK1.out; have := HJ9.out; omega
           case rel => exact ⟨(wrap64 (x4_1 + 1)), (x254002_9), (x254003_9), (x254004_9), (x254005_1), (x254006_1), (x254007_1), (by first | rfl | (simp; done) | (simp [*]; done)), H', ⟨by have := HK1.out; have := HJ9.out; omega⟩, ⟨by (with_reducible repeat (first | refine blk_drewN ?_ _ | refine blk_drew ?_ | refine blk_alloc ?_ _)); exact BK251.out⟩, ⟨by (with_reducible repeat (first | refine blk_drewN ?_ _ | refine blk_drew ?_ | refine blk_alloc ?_ _)); exact BK253.out⟩, ⟨by repeat (first | (with_reducible first | exact HB.out | apply below_alloc | apply pw_below_drewN | apply below_drew1 | refine below_set ?_ GE251.out | refine below_set ?_ GE253.out) | exact HB.out)⟩⟩
         ·rw [if_neg c17] at H
          exact absurd H (by simp)
        ·rw [if_neg c16] at H
         exact absurd H (by simp)
     ·rw [if_neg c8] at H
      exact absurd H (by simp)
    ·rw [if_neg c7] at H
     have c7b0 : decide (x4_1 < (l0.length : Int)) = false := decide_eq_false c7
     clear c7
     simp only [Option.some.injEq, Prod.mk.injEq] at H
     obtain ⟨rfl, rfl, rfl, rfl, rfl, rfl, rfl, rfl⟩ := H
     have hnb26 := NB253_251.out
     have hnc26 := NB251_253.out
     obtain ⟨hcz27_0, hcz27_1, hcz27_2, hcz27_3, hcz27_4, hcz27_5, hcz27_6, hcz27_7⟩ := bc8 BK253.out
     obtain ⟨hfz27_0, hfz27_1, hfz27_2, hfz27_3, hfz27_4, hfz27_5, hfz27_6, hfz27_7⟩ := bf8 BK253.out
     obtain ⟨hcz28_0, hcz28_1, hcz28_2, hcz28_3, hcz28_4, hcz28_5, hcz28_6, hcz28_7⟩ := bc8 BK251.out
     obtain ⟨hfz28_0, hfz28_1, hfz28_2, hfz28_3, hfz28_4, hfz28_5, hfz28_6, hfz28_7⟩ := bf8 BK251.out
     go_wp2
     refine bodyPost_ret (results_cell_row rfl _ _ gb251 38 #[.int .i64 ((rd_T38 l0 0).f0), .int .i64 ((rd_T38 l0 0).f1), .bool x254002_1, .int .i64 x254003_1, .string x254004_1, .bool x254005_1, .int .i64 x254006_1, .string x254007_1] (0, 0) _ rfl (by refine blk_put (cs := #[.int .i64 ((rd_T38 l0 0).f0), .int .i64 ((rd_T38 l0 0).f1), .bool x254002_1, .int .i64 x254003_1, .string x254004_1, .bool x254005_1, .int .i64 x254006_1, .string (⟨#[]⟩ : ByteArray)]) ?_ 7 _ rfl; refine blk_put (cs := #[.int .i64 ((rd_T38 l0 0).f0), .int .i64 ((rd_T38 l0 0).f1), .bool x254002_1, .int .i64 x254003_1, .string x254004_1, .bool x254005_1, .int .i64 0, .string (⟨#[]⟩ : ByteArray)]) ?_ 6 _ rfl; refine blk_put (cs := #[.int .i64 ((rd_T38 l0 0).f0), .int .i64 ((rd_T38 l0 0).f1), .bool x254002_1, .int .i64 x254003_1, .string x254004_1, .bool false, .int .i64 0, .string (⟨#[]⟩ : ByteArray)]) ?_ 5 _ rfl; refine blk_put (cs := #[.int .i64 ((rd_T38 l0 0).f0), .int .i64 ((rd_T38 l0 0).f1), .bool x254002_1, .int .i64 x254003_1, .string (⟨#[]⟩ : ByteArray), .bool false, .int .i64 0, .string (⟨#[]⟩ : ByteArray)]) ?_ 4 _ rfl; refine blk_put (cs := #[.int .i64 ((rd_T38 l0 0).f0), .int .i64 ((rd_T38 l0 0).f1), .bool x254002_1, .int .i64 0, .string (⟨#[]⟩ : ByteArray), .bool false, .int .i64 0, .string (⟨#[]⟩ : ByteArray)]) ?_ 3 _ rfl; refine blk_put (cs := #[.int .i64 ((rd_T38 l0 0).f0), .int .i64 ((rd_T38 l0 0).f1), .bool false, .int .i64 0, .string (⟨#[]⟩ : ByteArray), .bool false, .int .i64 0, .string (⟨#[]⟩ : ByteArray)]) ?_ 2 _ rfl; refine blk_put (cs := #[.int .i64 ((rd_T38 l0 0).f0), .int .i64 0, .bool false, .int .i64 0, .string (⟨#[]⟩ : ByteArray), .bool false, .int .i64 0, .string (⟨#[]⟩ : ByteArray)]) ?_ 1 _ rfl; refine blk_put (cs := #[.int .i64 0, .int .i64 0, .bool false, .int .i64 0, .string (⟨#[]⟩ : ByteArray), .bool false, .int .i64 0, .string (⟨#[]⟩ : ByteArray)]) ?_ 0 _ rfl; (with_reducible repeat (first | refine blk_drewN ?_ _ | refine blk_drew ?_ | refine blk_alloc ?_ _)); exact BK251.out) Try.underlying38 rfl (by kernel_rfl)) rfl ?_
     exact ⟨by first | rfl | (simp [errW_none, errW_some] <;> rfl) | (simp [*, errW_none, errW_some] <;> rfl), by repeat (first | (with_reducible first | exact HB.out | apply below_alloc | apply pw_below_drewN | apply below_drew1 | refine below_set ?_ GE251.out | refine below_set ?_ GE253.out) | exact HB.out)⟩
 ·rw [if_neg c2] at H
  exact absurd H (by simp)

end Go.Proofs.Ytcbgcmaioicdbaa.Pr
