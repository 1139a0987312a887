-- printed by xprint.py
import Derived.Test.YtcbgcmaioicdbaaPr0
import Derived.Test.YtcbgcmaioicdbaaPrf35xc
namespace Go.Proofs.Ytcbgcmaioicdbaa.Pr
open Go.RowKit Go.Proofs.YtcbgcmaioicdbaaW PrintWords PrintLast PrintMore
set_option linter.unusedVariables false
set_option linter.unusedSimpArgs false

/-! ### levels_Disjoint: function 13 -/
def levels_Disjoint.l0 : Nat → List (S38) → List (S38) → Int → Int → Option (Bool)
 | 0, _, _, _, _ => none
 | k + 1, x0, x5, x6, x7 => if x7 < x6 then (if 0 ≤ x7 then (if x7 < (x5.length : Int) then (if ((rd_T38 x5 x7).f1) = 0 then (levels_Disjoint.l0 k x0 x5 x6 (wrap64 (x7 + 1))) else (if x7 ≤ (x0.length : Int) then ((containsDisj.f (x0.take (x7 : Int).toNat) ((rd_T38 x5 x7).f0) ((rd_T38 x5 x7).f1) ((rd_T38 x5 x7).f2.f0) ((rd_T38 x5 x7).f2.f1) ((rd_T38 x5 x7).f2.f2) ((rd_T38 x5 x7).f3.f0) ((rd_T38 x5 x7).f3.f1) ((rd_T38 x5 x7).f3.f2)).bind fun t149 => (if t149 = true then (some false) else (levels_Disjoint.l0 k x0 x5 x6 (wrap64 (x7 + 1))))) else (none))) else (none)) else (none)) else (some true)
def levels_Disjoint.f (k : Nat) (l0 : List (S38)) : Option (Bool) := levels_Disjoint.l0 k l0 l0 (l0.length : Int) 0
theorem levels_Disjoint.mono_l : ∀ k, (∀ y0 y1 y2 y3, LeO (levels_Disjoint.l0 k y0 y1 y2 y3) (levels_Disjoint.l0 (k + 1) y0 y1 y2 y3))
 | 0 => fun _ _ _ _ r h => by simp [levels_Disjoint.l0] at h
 | k + 1 => by
  have ih0 := levels_Disjoint.mono_l k
  ·intro y0 y1 y2 y3
   unfold levels_Disjoint.l0
   repeat' first
   | (with_reducible exact ih0 _ _ _ _)
   | (with_reducible exact LeO.refl _)
   | (with_reducible exact LeO.none _)
   | (with_reducible refine LeO.ite ?_ ?_)
   | (with_reducible refine LeO.bind ?_ (fun _ => ?_))
theorem levels_Disjoint.mono : ∀ a0 k, LeO (levels_Disjoint.f k a0) (levels_Disjoint.f (k + 1) a0) := by
 intro a0 k
 have ih0 := levels_Disjoint.mono_l k
 unfold levels_Disjoint.f
 repeat' first
   | (with_reducible exact ih0 _ _ _ _)
   | (with_reducible exact LeO.refl _)
   | (with_reducible exact LeO.none _)
   | (with_reducible refine LeO.ite ?_ ?_)
   | (with_reducible refine LeO.bind ?_ (fun _ => ?_))
set_option maxHeartbeats 8000000 in
set_option maxRecDepth 100000 in
theorem levels_Disjoint.calls (k : Nat) (A0 : Option Addr) (c0 : Nat) (l0 : List (S38)) (r : Bool) (w : World) (hr0 : Kd.C k38 w A0 l0.length l0) (hc0 : l0.length ≤ c0) (h : levels_Disjoint.f k l0 = some r) :
  Calls Try.prog 13 #[.slice A0 l0.length c0] w fun e w' => e = .returned (.bool r) ∧ Below w.heap.size w w' := by
 have hu38 := Try.underlying38
 have HR0 := Aside0.mk hr0
 have HC0 := Aside0.mk hc0
 clear hr0 hc0
 have HB := Aside0.mk (Below.refl w.heap.size w)
 have H : (levels_Disjoint.l0 k l0 l0 (l0.length : Int) 0) = some r := h
 clear h
 have H' := Aside0.mk H
 clear H
 go_enter Try.func13, Try.ntmps13
 go_wp2
 go_loopg [7] k (fun kq v7 w' => ∃ (x7_1 : Int), v7 = .int .i64 x7_1 ∧ Aside0 (levels_Disjoint.l0 kq l0 l0 (l0.length : Int) x7_1 = some r) ∧ Aside0 (kq ≤ k) ∧ Aside0 (Below w.heap.size w w'))
 case atStart => exact ⟨(0), (by first | rfl | (simp; done) | (simp [*]; done)), H', ⟨Nat.le_refl _⟩, ⟨by repeat (first | (with_reducible first | exact HB.out | apply below_alloc | apply pw_below_drewN | apply below_drew1) | exact HB.out)⟩⟩
 case round =>
  clear H'
  try clear c1
  obtain ⟨x7_1, rfl, HA, HK1, HB⟩ := hrel
  cases gk with
  | zero => exact absurd HA.out (by simp [levels_Disjoint.l0])
  | succ k1 =>
   have H := HA.out
   clear HA
   simp only [levels_Disjoint.l0] at H
   by_cases c2 : x7_1 < (l0.length : Int)
   ·rw [if_pos c2] at H
    have c2b0 : decide (x7_1 < (l0.length : Int)) = true := decide_eq_true c2
    clear c2
    by_cases c3 : 0 ≤ x7_1
    ·rw [if_pos c3] at H
     have c3b0 : decide (0 ≤ x7_1) = true := decide_eq_true c3
     clear c3
     by_cases c4 : x7_1 < (l0.length : Int)
     ·rw [if_pos c4] at H
      have c4b0 : decide (x7_1 < (l0.length : Int)) = true := decide_eq_true c4
      clear c4
      by_cases c5 : ((rd_T38 l0 x7_1).f1) = 0
      ·rw [if_pos c5] at H
       have c5b0 : (((rd_T38 l0 x7_1).f1) == 0) = true := beq_iff_eq.mpr c5
       have c5b1 : (((rd_T38 l0 x7_1).f1) != 0) = false := bne_eq_false_iff_eq.mpr c5
       clear c5
       have H' := Aside0.mk H
       clear H
       have p143 : 0 ≤ (x7_1 : Int) := of_decide_eq_true (by with_reducible assumption)
       have q143 : x7_1 < (l0.length : Int) := of_decide_eq_true (by with_reducible assumption)
       obtain ⟨ad143, e143, hx143_0, hx143_1, hx143_2, hx143_3, hx143_4, hx143_5, hx143_6, hx143_7⟩ := at_T38 HR0.out x7_1 p143 q143
       cases e143
       replace hx143_0 := pw_cell_below HB.out hx143_0
       replace hx143_1 := pw_cell_below HB.out hx143_1
       replace hx143_2 := pw_cell_below HB.out hx143_2
       replace hx143_3 := pw_cell_below HB.out hx143_3
       replace hx143_4 := pw_cell_below HB.out hx143_4
       replace hx143_5 := pw_cell_below HB.out hx143_5
       replace hx143_6 := pw_cell_below HB.out hx143_6
       replace hx143_7 := pw_cell_below HB.out hx143_7
       replace p143 := eq_true p143
       replace q143 := eq_true q143
       go_wp2_with (first | ((with_reducible refine gate_dst (N := 4) rfl ?_); refine box_event ?hg (N := 4) ?hd (cs := #[.int .i64 0, .int .i64 0, .bool false, .int .i64 0, .string (⟨#[]⟩ : ByteArray), .bool false, .int .i64 0, .string (⟨#[]⟩ : ByteArray)]) (t := 38) ?hr ?_; (case hd => rfl); (case hg => rfl); (case hr => first | (go_simp; done) | (go_simp; rfl)); intro gb144 hg w6 hbox hb; have n0_ := Aside0.mk (below_step (by with_reducible repeat first | exact HB.out | apply below_alloc | apply pw_below_drewN | apply below_drew1) hb); have n1_ := Aside0.mk (hbox); have n2_ := Aside0.mk ((by rw [hg]; exact (below_size (by with_reducible repeat first | exact HB.out | apply below_alloc | apply pw_below_drewN | apply below_drew1)) : w.heap.size ≤ gb144)); have n3_ := Aside0.mk ((by rw [hg]; exact (below_size (by with_reducible repeat first | exact HB.out | apply below_alloc | apply pw_below_drewN | apply below_drew1)) : w.heap.size ≤ gb144)); clear HB; have HB := n0_; have BK144 := n1_; have GW144 := n2_; have GE144 := n3_; clear n0_ n1_ n2_ n3_; clear hb hbox hg; obtain ⟨hcz7_0, hcz7_1, hcz7_2, hcz7_3, hcz7_4, hcz7_5, hcz7_6, hcz7_7⟩ := bc8 BK144.out; obtain ⟨hfz7_0, hfz7_1, hfz7_2, hfz7_3, hfz7_4, hfz7_5, hfz7_6, hfz7_7⟩ := bf8 BK144.out))
       go_roundg k1
       case measure => have := HK1.out; omega
       case rel => exact ⟨(wrap64 (x7_1 + 1)), (by first | rfl | (simp; done) | (simp [*]; done)), H', ⟨by have := HK1.out; omega⟩, ⟨by repeat (first | (with_reducible first | exact HB.out | apply below_alloc | apply pw_below_drewN | apply below_drew1 | refine below_set ?_ GE144.out) | exact HB.out)⟩⟩
      ·rw [if_neg c5] at H
       have c5b0 : (((rd_T38 l0 x7_1).f1) == 0) = false := beq_eq_false_iff_ne.mpr c5
       have c5b1 : (((rd_T38 l0 x7_1).f1) != 0) = true := bne_iff_ne.mpr c5
       have c8b0 := eq_true (of_decide_eq_true (by with_reducible assumption) : 0 ≤ x7_1)
       by_cases c9 : x7_1 ≤ (l0.length : Int)
       ·rw [if_pos c9] at H
        have c9b0 := eq_true c9
        have c9b1 : decide (x7_1 ≤ (l0.length : Int)) = true := decide_eq_true c9
        clear c9
        obtain ⟨y145, hy145⟩ : ∃ y_ : List (S38), y_ = (l0.take (x7_1 : Int).toNat) := ⟨_, rfl⟩
        replace H : ((containsDisj.f y145 ((rd_T38 l0 x7_1).f0) ((rd_T38 l0 x7_1).f1) ((rd_T38 l0 x7_1).f2.f0) ((rd_T38 l0 x7_1).f2.f1) ((rd_T38 l0 x7_1).f2.f2) ((rd_T38 l0 x7_1).f3.f0) ((rd_T38 l0 x7_1).f3.f1) ((rd_T38 l0 x7_1).f3.f2)).bind fun t149 => (if t149 = true then (some false) else (levels_Disjoint.l0 k1 l0 l0 (l0.length : Int) (wrap64 (x7_1 + 1))))) = some r := by first | (rw [hy145]; with_reducible exact H) | (have H2_ := (Option.bind_some _ _).symm.trans H; rw [hy145]; with_reducible exact H2_) | (have H2_ := (Option.bind_some _ _).symm.trans H; with_reducible exact H2_) | with_reducible exact H | (rw [hy145]; exact H) | exact H
        have Ny145 := Aside0.mk hy145
        clear hy145
        replace H := Option.bind_eq_some_iff.mp H
        obtain ⟨t149, A100, H⟩ := H
        replace H : (if t149 = true then (some false) else (levels_Disjoint.l0 k1 l0 l0 (l0.length : Int) (wrap64 (x7_1 + 1)))) = some r := H
        have A10 := Aside0.mk A100
        clear A100
        by_cases c11 : t149 = true
        ·subst c11
         have H1 : (some false) = some r := by rw [if_pos rfl] at H; exact H
         clear H
         have H := H1
         clear H1
         obtain rfl := Option.some.inj H
         have p143 : 0 ≤ (x7_1 : Int) := of_decide_eq_true (by with_reducible assumption)
         have q143 : x7_1 < (l0.length : Int) := of_decide_eq_true (by with_reducible assumption)
         obtain ⟨ad143, e143, hx143_0, hx143_1, hx143_2, hx143_3, hx143_4, hx143_5, hx143_6, hx143_7⟩ := at_T38 HR0.out x7_1 p143 q143
         cases e143
         replace hx143_0 := pw_cell_below HB.out hx143_0
         replace hx143_1 := pw_cell_below HB.out hx143_1
         replace hx143_2 := pw_cell_below HB.out hx143_2
         replace hx143_3 := pw_cell_below HB.out hx143_3
         replace hx143_4 := pw_cell_below HB.out hx143_4
         replace hx143_5 := pw_cell_below HB.out hx143_5
         replace hx143_6 := pw_cell_below HB.out hx143_6
         replace hx143_7 := pw_cell_below HB.out hx143_7
         replace p143 := eq_true p143
         replace q143 := eq_true q143
         go_wp2_with (first | ((with_reducible refine gate_dst (N := 4) rfl ?_); refine box_event ?hg (N := 4) ?hd (cs := #[.int .i64 0, .int .i64 0, .bool false, .int .i64 0, .string (⟨#[]⟩ : ByteArray), .bool false, .int .i64 0, .string (⟨#[]⟩ : ByteArray)]) (t := 38) ?hr ?_; (case hd => rfl); (case hg => rfl); (case hr => first | (go_simp; done) | (go_simp; rfl)); intro gb144 hg w12 hbox hb; have n0_ := Aside0.mk (below_step (by with_reducible repeat first | exact HB.out | apply below_alloc | apply pw_below_drewN | apply below_drew1) hb); have n1_ := Aside0.mk (hbox); have n2_ := Aside0.mk ((by rw [hg]; exact (below_size (by with_reducible repeat first | exact HB.out | apply below_alloc | apply pw_below_drewN | apply below_drew1)) : w.heap.size ≤ gb144)); have n3_ := Aside0.mk ((by rw [hg]; exact (below_size (by with_reducible repeat first | exact HB.out | apply below_alloc | apply pw_below_drewN | apply below_drew1)) : w.heap.size ≤ gb144)); clear HB; have HB := n0_; have BK144 := n1_; have GW144 := n2_; have GE144 := n3_; clear n0_ n1_ n2_ n3_; clear hb hbox hg; obtain ⟨hcz13_0, hcz13_1, hcz13_2, hcz13_3, hcz13_4, hcz13_5, hcz13_6, hcz13_7⟩ := bc8 BK144.out; obtain ⟨hfz13_0, hfz13_1, hfz13_2, hfz13_3, hfz13_4, hfz13_5, hfz13_6, hfz13_7⟩ := bf8 BK144.out) | ((with_reducible refine gate_store (t := 38) (p := 4) rfl ?_); refine store_event (t := 38) (p := 4) (v := ?vo_w14) (w1 := ((((((((w12.setCell ⟨gb144, 0, none⟩ (.int .i64 ((rd_T38 l0 x7_1).f0))).setCell ⟨gb144, 1, none⟩ (.int .i64 ((rd_T38 l0 x7_1).f1))).setCell ⟨gb144, 2, none⟩ (.bool ((rd_T38 l0 x7_1).f2.f0))).setCell ⟨gb144, 3, none⟩ (.int .i64 ((rd_T38 l0 x7_1).f2.f1))).setCell ⟨gb144, 4, none⟩ (.string ((rd_T38 l0 x7_1).f2.f2))).setCell ⟨gb144, 5, none⟩ (.bool ((rd_T38 l0 x7_1).f3.f0))).setCell ⟨gb144, 6, none⟩ (.int .i64 ((rd_T38 l0 x7_1).f3.f1))).setCell ⟨gb144, 7, none⟩ (.string ((rd_T38 l0 x7_1).f3.f2)))) ?hg ?ho ?hn ?hr ?_; (case ho => rfl); (case hg => rfl); (case hn => rfl); (case hr => first | (go_simp; done) | (go_simp; rfl)); intro w14 hw; have n0_ : Aside0 (w14.heap[gb144]? = some (.cells #[.int .i64 ((rd_T38 l0 x7_1).f0), .int .i64 ((rd_T38 l0 x7_1).f1), .bool ((rd_T38 l0 x7_1).f2.f0), .int .i64 ((rd_T38 l0 x7_1).f2.f1), .string ((rd_T38 l0 x7_1).f2.f2), .bool ((rd_T38 l0 x7_1).f3.f0), .int .i64 ((rd_T38 l0 x7_1).f3.f1), .string ((rd_T38 l0 x7_1).f3.f2)] 38 (0, 0))) := ⟨(by rw [hw]; exact (by refine blk_put (cs := #[.int .i64 ((rd_T38 l0 x7_1).f0), .int .i64 ((rd_T38 l0 x7_1).f1), .bool ((rd_T38 l0 x7_1).f2.f0), .int .i64 ((rd_T38 l0 x7_1).f2.f1), .string ((rd_T38 l0 x7_1).f2.f2), .bool ((rd_T38 l0 x7_1).f3.f0), .int .i64 ((rd_T38 l0 x7_1).f3.f1), .string (⟨#[]⟩ : ByteArray)]) ?_ 7 _ rfl; refine blk_put (cs := #[.int .i64 ((rd_T38 l0 x7_1).f0), .int .i64 ((rd_T38 l0 x7_1).f1), .bool ((rd_T38 l0 x7_1).f2.f0), .int .i64 ((rd_T38 l0 x7_1).f2.f1), .string ((rd_T38 l0 x7_1).f2.f2), .bool ((rd_T38 l0 x7_1).f3.f0), .int .i64 0, .string (⟨#[]⟩ : ByteArray)]) ?_ 6 _ rfl; refine blk_put (cs := #[.int .i64 ((rd_T38 l0 x7_1).f0), .int .i64 ((rd_T38 l0 x7_1).f1), .bool ((rd_T38 l0 x7_1).f2.f0), .int .i64 ((rd_T38 l0 x7_1).f2.f1), .string ((rd_T38 l0 x7_1).f2.f2), .bool false, .int .i64 0, .string (⟨#[]⟩ : ByteArray)]) ?_ 5 _ rfl; refine blk_put (cs := #[.int .i64 ((rd_T38 l0 x7_1).f0), .int .i64 ((rd_T38 l0 x7_1).f1), .bool ((rd_T38 l0 x7_1).f2.f0), .int .i64 ((rd_T38 l0 x7_1).f2.f1), .string (⟨#[]⟩ : ByteArray), .bool false, .int .i64 0, .string (⟨#[]⟩ : ByteArray)]) ?_ 4 _ rfl; refine blk_put (cs := #[.int .i64 ((rd_T38 l0 x7_1).f0), .int .i64 ((rd_T38 l0 x7_1).f1), .bool ((rd_T38 l0 x7_1).f2.f0), .int .i64 0, .string (⟨#[]⟩ : ByteArray), .bool false, .int .i64 0, .string (⟨#[]⟩ : ByteArray)]) ?_ 3 _ rfl; refine blk_put (cs := #[.int .i64 ((rd_T38 l0 x7_1).f0), .int .i64 ((rd_T38 l0 x7_1).f1), .bool false, .int .i64 0, .string (⟨#[]⟩ : ByteArray), .bool false, .int .i64 0, .string (⟨#[]⟩ : ByteArray)]) ?_ 2 _ rfl; refine blk_put (cs := #[.int .i64 ((rd_T38 l0 x7_1).f0), .int .i64 0, .bool false, .int .i64 0, .string (⟨#[]⟩ : ByteArray), .bool false, .int .i64 0, .string (⟨#[]⟩ : ByteArray)]) ?_ 1 _ rfl; refine blk_put (cs := #[.int .i64 0, .int .i64 0, .bool false, .int .i64 0, .string (⟨#[]⟩ : ByteArray), .bool false, .int .i64 0, .string (⟨#[]⟩ : ByteArray)]) ?_ 0 _ rfl; (with_reducible repeat (first | refine blk_drewN ?_ _ | refine blk_drew ?_ | refine blk_alloc ?_ _)); exact BK144.out))⟩; have n1_ : Aside0 (Below w.heap.size w w14) := ⟨(by rw [hw]; exact (by with_reducible repeat first | exact HB.out | apply below_alloc | apply pw_below_drewN | apply below_drew1 | refine below_set ?_ GE144.out))⟩; clear hw; clear BK144; clear HB; have BK144 := n0_; have HB := n1_; clear n0_ n1_; obtain ⟨hcz15_0, hcz15_1, hcz15_2, hcz15_3, hcz15_4, hcz15_5, hcz15_6, hcz15_7⟩ := bc8 BK144.out; obtain ⟨hfz15_0, hfz15_1, hfz15_2, hfz15_3, hfz15_4, hfz15_5, hfz15_6, hfz15_7⟩ := bf8 BK144.out; have q16 : (x7_1 : Int) ≤ ((l0.length : Int) : Int) := of_decide_eq_true (by with_reducible assumption); obtain ⟨i016, hi016, _, hsz16, _⟩ := info_parts info38; have hroom16 : l0.length ≤ c0 := HC0.out; have hC16 : Kd.C k38 _ (some ad143) l0.length l0 := HR0.out; have hcut16 := cut_to (P := Try.prog) 22 38 .i64 Try.underlying22 hi016 (some ad143) l0.length c0 x7_1 (of_decide_eq_true (by with_reducible assumption)) q16 hroom16; have hr16 := Kd.C_take (m := (x7_1 : Int).toNat) hC16 (by omega); have hy16 : y145.length = (x7_1 : Int).toNat := (by rw [Ny145.out, List.length_take]; omega); rw [← Ny145.out] at hr16; rw [← hy16] at hcut16; have HR148 := Aside0.mk hr16; have HC148 := Aside0.mk (show y145.length ≤ c0 from by omega); clear hr16 hC16 hroom16 hi016 hsz16; have KY16 := Aside0.mk hy16; clear hy16; replace q16 := eq_true q16) | (go_at_call 35; (with_reducible refine (containsDisj.calls (some ad143) c0 y145 gb144 ((rd_T38 l0 x7_1).f0) ((rd_T38 l0 x7_1).f1) ((rd_T38 l0 x7_1).f2.f0) ((rd_T38 l0 x7_1).f2.f1) ((rd_T38 l0 x7_1).f2.f2) ((rd_T38 l0 x7_1).f3.f0) ((rd_T38 l0 x7_1).f3.f1) ((rd_T38 l0 x7_1).f3.f2) true _ ?side1 ?side2 ?side3 A10.out).mono ?_); (case side1 => repeat (first | exact (Kd.C_below HR148.out HB.out) | (with_reducible refine Kd.C_alloc ?_ _) | (with_reducible refine Kd.C_drewN ?_ _) | (with_reducible refine Kd.C_drew ?_))); (case side2 => exact HC148.out); (case side3 => exact by (with_reducible repeat (first | refine blk_drewN ?_ _ | refine blk_drew ?_ | refine blk_alloc ?_ _)); exact BK144.out); rintro e w17 ⟨rfl, hb⟩; have n0_ := Aside0.mk (blk_below (g := gb144) (o := .cells #[.int .i64 ((rd_T38 l0 x7_1).f0), .int .i64 ((rd_T38 l0 x7_1).f1), .bool ((rd_T38 l0 x7_1).f2.f0), .int .i64 ((rd_T38 l0 x7_1).f2.f1), .string ((rd_T38 l0 x7_1).f2.f2), .bool ((rd_T38 l0 x7_1).f3.f0), .int .i64 ((rd_T38 l0 x7_1).f3.f1), .string ((rd_T38 l0 x7_1).f3.f2)] 38 (0, 0)) (by (with_reducible repeat (first | refine blk_drewN ?_ _ | refine blk_drew ?_ | refine blk_alloc ?_ _)); exact BK144.out) hb); have n1_ := Aside0.mk (below_step (by with_reducible repeat first | exact HB.out | apply below_alloc | apply pw_below_drewN | apply below_drew1 | refine below_set ?_ GE144.out) hb); clear BK144; clear HB; have BK144 := n0_; have HB := n1_; clear n0_ n1_; (try clear hb); (try clear hb2); (try clear hk); (try clear hi)))
         go_ret
         exact ⟨by first | rfl | (simp [errW_none, errW_some] <;> rfl) | (simp [*, errW_none, errW_some] <;> rfl), by repeat (first | (with_reducible first | exact HB.out | apply below_alloc | apply pw_below_drewN | apply below_drew1 | refine below_set ?_ GE144.out) | exact HB.out)⟩
        ·replace c11 := Bool.eq_false_iff.mpr c11
         subst c11
         have H1 : (levels_Disjoint.l0 k1 l0 l0 (l0.length : Int) (wrap64 (x7_1 + 1))) = some r := by rw [if_neg (show ¬ (false = true) by decide)] at H; exact H
         clear H
         have H := H1
         clear H1
         have H' := Aside0.mk H
         clear H
         have p143 : 0 ≤ (x7_1 : Int) := of_decide_eq_true (by with_reducible assumption)
         have q143 : x7_1 < (l0.length : Int) := of_decide_eq_true (by with_reducible assumption)
         obtain ⟨ad143, e143, hx143_0, hx143_1, hx143_2, hx143_3, hx143_4, hx143_5, hx143_6, hx143_7⟩ := at_T38 HR0.out x7_1 p143 q143
         cases e143
         replace hx143_0 := pw_cell_below HB.out hx143_0
         replace hx143_1 := pw_cell_below HB.out hx143_1
         replace hx143_2 := pw_cell_below HB.out hx143_2
         replace hx143_3 := pw_cell_below HB.out hx143_3
         replace hx143_4 := pw_cell_below HB.out hx143_4
         replace hx143_5 := pw_cell_below HB.out hx143_5
         replace hx143_6 := pw_cell_below HB.out hx143_6
         replace hx143_7 := pw_cell_below HB.out hx143_7
         replace p143 := eq_true p143
         replace q143 := eq_true q143
         go_wp2_with (first | ((with_reducible refine gate_dst (N := 4) rfl ?_); refine box_event ?hg (N := 4) ?hd (cs := #[.int .i64 0, .int .i64 0, .bool false, .int .i64 0, .string (⟨#[]⟩ : ByteArray), .bool false, .int .i64 0, .string (⟨#[]⟩ : ByteArray)]) (t := 38) ?hr ?_; (case hd => rfl); (case hg => rfl); (case hr => first | (go_simp; done) | (go_simp; rfl)); intro gb144 hg w18 hbox hb; have n0_ := Aside0.mk (below_step (by with_reducible repeat first | exact HB.out | apply below_alloc | apply pw_below_drewN | apply below_drew1) hb); have n1_ := Aside0.mk (hbox); have n2_ := Aside0.mk ((by rw [hg]; exact (below_size (by with_reducible repeat first | exact HB.out | apply below_alloc | apply pw_below_drewN | apply below_drew1)) : w.heap.size ≤ gb144)); have n3_ := Aside0.mk ((by rw [hg]; exact (below_size (by with_reducible repeat first | exact HB.out | apply below_alloc | apply pw_below_drewN | apply below_drew1)) : w.heap.size ≤ gb144)); clear HB; have HB := n0_; have BK144 := n1_; have GW144 := n2_; have GE144 := n3_; clear n0_ n1_ n2_ n3_; clear hb hbox hg; obtain ⟨hcz19_0, hcz19_1, hcz19_2, hcz19_3, hcz19_4, hcz19_5, hcz19_6, hcz19_7⟩ := bc8 BK144.out; obtain ⟨hfz19_0, hfz19_1, hfz19_2, hfz19_3, hfz19_4, hfz19_5, hfz19_6, hfz19_7⟩ := bf8 BK144.out) | ((with_reducible refine gate_store (t := 38) (p := 4) rfl ?_); refine store_event (t := 38) (p := 4) (v := ?vo_w20) (w1 := ((((((((w18.setCell ⟨gb144, 0, none⟩ (.int .i64 ((rd_T38 l0 x7_1).f0))).setCell ⟨gb144, 1, none⟩ (.int .i64 ((rd_T38 l0 x7_1).f1))).setCell ⟨gb144, 2, none⟩ (.bool ((rd_T38 l0 x7_1).f2.f0))).setCell ⟨gb144, 3, none⟩ (.int .i64 ((rd_T38 l0 x7_1).f2.f1))).setCell ⟨gb144, 4, none⟩ (.string ((rd_T38 l0 x7_1).f2.f2))).setCell ⟨gb144, 5, none⟩ (.bool ((rd_T38 l0 x7_1).f3.f0))).setCell ⟨gb144, 6, none⟩ (.int .i64 ((rd_T38 l0 x7_1).f3.f1))).setCell ⟨gb144, 7, none⟩ (.string ((rd_T38 l0 x7_1).f3.f2)))) ?hg ?ho ?hn ?hr ?_; (case ho => rfl); (case hg => rfl); (case hn => rfl); (case hr => first | (go_simp; done) | (go_simp; rfl)); intro w20 hw; have n0_ : Aside0 (w20.heap[gb144]? = some (.cells #[.int .i64 ((rd_T38 l0 x7_1).f0), .int .i64 ((rd_T38 l0 x7_1).f1), .bool ((rd_T38 l0 x7_1).f2.f0), .int .i64 ((rd_T38 l0 x7_1).f2.f1), .string ((rd_T38 l0 x7_1).f2.f2), .bool ((rd_T38 l0 x7_1).f3.f0), .int .i64 ((rd_T38 l0 x7_1).f3.f1), .string ((rd_T38 l0 x7_1).f3.f2)] 38 (0, 0))) := ⟨(by rw [hw]; exact (by refine blk_put (cs := #[.int .i64 ((rd_T38 l0 x7_1).f0), .int .i64 ((rd_T38 l0 x7_1).f1), .bool ((rd_T38 l0 x7_1).f2.f0), .int .i64 ((rd_T38 l0 x7_1).f2.f1), .string ((rd_T38 l0 x7_1).f2.f2), .bool ((rd_T38 l0 x7_1).f3.f0), .int .i64 ((rd_T38 l0 x7_1).f3.f1), .string (⟨#[]⟩ : ByteArray)]) ?_ 7 _ rfl; refine blk_put (cs := #[.int .i64 ((rd_T38 l0 x7_1).f0), .int .i64 ((rd_T38 l0 x7_1).f1), .bool ((rd_T38 l0 x7_1).f2.f0), .int .i64 ((rd_T38 l0 x7_1).f2.f1), .string ((rd_T38 l0 x7_1).f2.f2), .bool ((rd_T38 l0 x7_1).f3.f0), .int .i64 0, .string (⟨#[]⟩ : ByteArray)]) ?_ 6 _ rfl; refine blk_put (cs := #[.int .i64 ((rd_T38 l0 x7_1).f0), .int .i64 ((rd_T38 l0 x7_1).f1), .bool ((rd_T38 l0 x7_1).f2.f0), .int .i64 ((rd_T38 l0 x7_1).f2.f1), .string ((rd_T38 l0 x7_1).f2.f2), .bool false, .int .i64 0, .string (⟨#[]⟩ : ByteArray)]) ?_ 5 _ rfl; refine blk_put (cs := #[.int .i64 ((rd_T38 l0 x7_1).f0), .int .i64 ((rd_T38 l0 x7_1).f1), .bool ((rd_T38 l0 x7_1).f2.f0), .int .i64 ((rd_T38 l0 x7_1).f2.f1), .string (⟨#[]⟩ : ByteArray), .bool false, .int .i64 0, .string (⟨#[]⟩ : ByteArray)]) ?_ 4 _ rfl; refine blk_put (cs := #[.int .i64 ((rd_T38 l0 x7_1).f0), .int .i64 ((rd_T38 l0 x7_1).f1), .bool ((rd_T38 l0 x7_1).f2.f0), .int .i64 0, .string (⟨#[]⟩ : ByteArray), .bool false, .int .i64 0, .string (⟨#[]⟩ : ByteArray)]) ?_ 3 _ rfl; refine blk_put (cs := #[.int .i64 ((rd_T38 l0 x7_1).f0), .int .i64 ((rd_T38 l0 x7_1).f1), .bool false, .int .i64 0, .string (⟨#[]⟩ : ByteArray), .bool false, .int .i64 0, .string (⟨#[]⟩ : ByteArray)]) ?_ 2 _ rfl; refine blk_put (cs := #[.int .i64 ((rd_T38 l0 x7_1).f0), .int .i64 0, .bool false, .int .i64 0, .string (⟨#[]⟩ : ByteArray), .bool false, .int .i64 0, .string (⟨#[]⟩ : ByteArray)]) ?_ 1 _ rfl; refine blk_put (cs := #[.int .i64 0, .int .i64 0, .bool false, .int .i64 0, .string (⟨#[]⟩ : ByteArray), .bool false, .int .i64 0, .string (⟨#[]⟩ : ByteArray)]) ?_ 0 _ rfl; (with_reducible repeat (first | refine blk_drewN ?_ _ | refine blk_drew ?_ | refine blk_alloc ?_ _)); exact BK144.out))⟩; have n1_ : Aside0 (Below w.heap.size w w20) := ⟨(by rw [hw]; exact (by with_reducible repeat first | exact HB.out | apply below_alloc | apply pw_below_drewN | apply below_drew1 | refine below_set ?_ GE144.out))⟩; clear hw; clear BK144; clear HB; have BK144 := n0_; have HB := n1_; clear n0_ n1_; obtain ⟨hcz21_0, hcz21_1, hcz21_2, hcz21_3, hcz21_4, hcz21_5, hcz21_6, hcz21_7⟩ := bc8 BK144.out; obtain ⟨hfz21_0, hfz21_1, hfz21_2, hfz21_3, hfz21_4, hfz21_5, hfz21_6, hfz21_7⟩ := bf8 BK144.out; have q22 : (x7_1 : Int) ≤ ((l0.length : Int) : Int) := of_decide_eq_true (by with_reducible assumption); obtain ⟨i022, hi022, _, hsz22, _⟩ := info_parts info38; have hroom22 : l0.length ≤ c0 := HC0.out; have hC22 : Kd.C k38 _ (some ad143) l0.length l0 := HR0.out; have hcut22 := cut_to (P := Try.prog) 22 38 .i64 Try.underlying22 hi022 (some ad143) l0.length c0 x7_1 (of_decide_eq_true (by with_reducible assumption)) q22 hroom22; have hr22 := Kd.C_take (m := (x7_1 : Int).toNat) hC22 (by omega); have hy22 : y145.length = (x7_1 : Int).toNat := (by rw [Ny145.out, List.length_take]; omega); rw [← Ny145.out] at hr22; rw [← hy22] at hcut22; have HR148 := Aside0.mk hr22; have HC148 := Aside0.mk (show y145.length ≤ c0 from by omega); clear hr22 hC22 hroom22 hi022 hsz22; have KY22 := Aside0.mk hy22; clear hy22; replace q22 := eq_true q22) | (go_at_call 35; (with_reducible refine (containsDisj.calls (some ad143) c0 y145 gb144 ((rd_T38 l0 x7_1).f0) ((rd_T38 l0 x7_1).f1) ((rd_T38 l0 x7_1).f2.f0) ((rd_T38 l0 x7_1).f2.f1) ((rd_T38 l0 x7_1).f2.f2) ((rd_T38 l0 x7_1).f3.f0) ((rd_T38 l0 x7_1).f3.f1) ((rd_T38 l0 x7_1).f3.f2) false _ ?side1 ?side2 ?side3 A10.out).mono ?_); (case side1 => repeat (first | exact (Kd.C_below HR148.out HB.out) | (with_reducible refine Kd.C_alloc ?_ _) | (with_reducible refine Kd.C_drewN ?_ _) | (with_reducible refine Kd.C_drew ?_))); (case side2 => exact HC148.out); (case side3 => exact by (with_reducible repeat (first | refine blk_drewN ?_ _ | refine blk_drew ?_ | refine blk_alloc ?_ _)); exact BK144.out); rintro e w23 ⟨rfl, hb⟩; have n0_ := Aside0.mk (blk_below (g := gb144) (o := .cells #[.int .i64 ((rd_T38 l0 x7_1).f0), .int .i64 ((rd_T38 l0 x7_1).f1), .bool ((rd_T38 l0 x7_1).f2.f0), .int .i64 ((rd_T38 l0 x7_1).f2.f1), .string ((rd_T38 l0 x7_1).f2.f2), .bool ((rd_T38 l0 x7_1).f3.f0), .int .i64 ((rd_T38 l0 x7_1).f3.f1), .string ((rd_T38 l0 x7_1).f3.f2)] 38 (0, 0)) (by (with_reducible repeat (first | refine blk_drewN ?_ _ | refine blk_drew ?_ | refine blk_alloc ?_ _)); exact BK144.out) hb); have n1_ := Aside0.mk (below_step (by with_reducible repeat first | exact HB.out | apply below_alloc | apply pw_below_drewN | apply below_drew1 | refine below_set ?_ GE144.out) hb); clear BK144; clear HB; have BK144 := n0_; have HB := n1_; clear n0_ n1_; (try clear hb); (try clear hb2); (try clear hk); (try clear hi)))
         go_roundg k1
         case measure => have := HK1.out; omega
         case rel => exact ⟨(wrap64 (x7_1 + 1)), (by first | rfl | (simp; done) | (simp [*]; done)), H', ⟨by have := HK1.out; omega⟩, ⟨by repeat (first | (with_reducible first | exact HB.out | apply below_alloc | apply pw_below_drewN | apply below_drew1 | refine below_set ?_ GE144.out) | exact HB.out)⟩⟩
       ·rw [if_neg c9] at H
        exact absurd H (by simp)
     ·rw [if_neg c4] at H
      exact absurd H (by simp)
    ·rw [if_neg c3] at H
     exact absurd H (by simp)
   ·rw [if_neg c2] at H
    have c2b0 : decide (x7_1 < (l0.length : Int)) = false := decide_eq_false c2
    clear c2
    obtain rfl := Option.some.inj H
    go_wp2
    go_ret
    exact ⟨by first | rfl | (simp [errW_none, errW_some] <;> rfl) | (simp [*, errW_none, errW_some] <;> rfl), by repeat (first | (with_reducible first | exact HB.out | apply below_alloc | apply pw_below_drewN | apply below_drew1) | exact HB.out)⟩

end Go.Proofs.Ytcbgcmaioicdbaa.Pr
