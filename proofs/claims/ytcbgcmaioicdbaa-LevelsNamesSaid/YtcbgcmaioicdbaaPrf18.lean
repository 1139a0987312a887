-- printed by xprint.py
import Derived.Test.YtcbgcmaioicdbaaPr0
namespace Go.Proofs.Ytcbgcmaioicdbaa.Pr
open Go.RowKit Go.Proofs.YtcbgcmaioicdbaaW PrintWords PrintLast PrintMore
set_option linter.unusedVariables false
set_option linter.unusedSimpArgs false

/-! ### tithebarnlaw17_at: function 18 -/
def tithebarnlaw17_at.l0 : Nat → List (S38) → Int → Int → Option (Int × Int × Bool × Int × ByteArray × Bool × Int × ByteArray × Bool)
 | 0, _, _, _ => none
 | k + 1, x0, x1, x6 => if x6 < (x0.length : Int) then (if 0 ≤ x6 then (if ((rd_T38 x0 x6).f0) = x1 then (some ((rd_T38 x0 x6).f0, (rd_T38 x0 x6).f1, (rd_T38 x0 x6).f2.f0, (rd_T38 x0 x6).f2.f1, (rd_T38 x0 x6).f2.f2, (rd_T38 x0 x6).f3.f0, (rd_T38 x0 x6).f3.f1, (rd_T38 x0 x6).f3.f2, true)) else (tithebarnlaw17_at.l0 k x0 x1 (wrap64 (x6 + 1)))) else (none)) else (some (0, 0, false, 0, (⟨#[]⟩ : ByteArray), false, 0, (⟨#[]⟩ : ByteArray), false))
def tithebarnlaw17_at.f (k : Nat) (l0 : List (S38)) (a1 : Int) : Option (Int × Int × Bool × Int × ByteArray × Bool × Int × ByteArray × Bool) := tithebarnlaw17_at.l0 k l0 a1 0
theorem tithebarnlaw17_at.mono_l : ∀ k, (∀ y0 y1 y2, LeO (tithebarnlaw17_at.l0 k y0 y1 y2) (tithebarnlaw17_at.l0 (k + 1) y0 y1 y2))
 | 0 => fun _ _ _ r h => by simp [tithebarnlaw17_at.l0] at h
 | k + 1 => by
  have ih0 := tithebarnlaw17_at.mono_l k
  ·intro y0 y1 y2
   unfold tithebarnlaw17_at.l0
   repeat' first
   | (with_reducible exact ih0 _ _ _)
   | (with_reducible exact LeO.refl _)
   | (with_reducible exact LeO.none _)
   | (with_reducible refine LeO.ite ?_ ?_)
   | (with_reducible refine LeO.bind ?_ (fun _ => ?_))
theorem tithebarnlaw17_at.mono : ∀ a0 a1 k, LeO (tithebarnlaw17_at.f k a0 a1) (tithebarnlaw17_at.f (k + 1) a0 a1) := by
 intro a0 a1 k
 have ih0 := tithebarnlaw17_at.mono_l k
 unfold tithebarnlaw17_at.f
 repeat' first
   | (with_reducible exact ih0 _ _ _)
   | (with_reducible exact LeO.refl _)
   | (with_reducible exact LeO.none _)
   | (with_reducible refine LeO.ite ?_ ?_)
   | (with_reducible refine LeO.bind ?_ (fun _ => ?_))
set_option maxHeartbeats 8000000 in
set_option maxRecDepth 100000 in
theorem tithebarnlaw17_at.calls (k : Nat) (A0 : Option Addr) (c0 : Nat) (l0 : List (S38)) (a1 : Int) (r1 : Int) (r2 : Int) (r3 : Bool) (r4 : Int) (r5 : ByteArray) (r6 : Bool) (r7 : Int) (r8 : ByteArray) (r9 : Bool) (w : World) (hr0 : Kd.C k38 w A0 l0.length l0) (hc0 : l0.length ≤ c0) (h : tithebarnlaw17_at.f k l0 a1 = some (r1, r2, r3, r4, r5, r6, r7, r8, r9)) :
  Calls Try.prog 18 #[.slice A0 l0.length c0, .int .i64 a1] w fun e w' => e = .returned (.tuple #[.agg #[.int .i64 r1, .int .i64 r2, .bool r3, .int .i64 r4, .string r5, .bool r6, .int .i64 r7, .string r8], .bool r9]) ∧ Below w.heap.size w w' := by
 have hu38 := Try.underlying38
 have HR0 := Aside0.mk hr0
 have HC0 := Aside0.mk hc0
 clear hr0 hc0
 have HB := Aside0.mk (Below.refl w.heap.size w)
 have H : (tithebarnlaw17_at.l0 k l0 a1 0) = some (r1, r2, r3, r4, r5, r6, r7, r8, r9) := h
 clear h
 have H' := Aside0.mk H
 clear H
 go_enter Try.func18, Try.ntmps18
 go_wp2_with (first | ((with_reducible refine gate_dst (N := 4) rfl ?_); refine box_event ?hg (N := 4) ?hd (cs := #[.int .i64 0, .int .i64 0, .bool false, .int .i64 0, .string (⟨#[]⟩ : ByteArray), .bool false, .int .i64 0, .string (⟨#[]⟩ : ByteArray)]) (t := 38) ?hr ?_; (case hd => rfl); (case hg => rfl); (case hr => first | (go_simp; done) | (go_simp; rfl)); intro gb334 hg w3 hbox hb; have n0_ := Aside0.mk (below_step (by with_reducible repeat first | exact HB.out | apply below_alloc | apply pw_below_drewN | apply below_drew1) hb); have n1_ := Aside0.mk (hbox); have n2_ := Aside0.mk ((by rw [hg]; exact (below_size (by with_reducible repeat first | exact HB.out | apply below_alloc | apply pw_below_drewN | apply below_drew1)) : w.heap.size ≤ gb334)); have n3_ := Aside0.mk ((by rw [hg]; exact (below_size (by with_reducible repeat first | exact HB.out | apply below_alloc | apply pw_below_drewN | apply below_drew1)) : w.heap.size ≤ gb334)); clear HB; have HB := n0_; have BK334 := n1_; have GW334 := n2_; have GE334 := n3_; clear n0_ n1_ n2_ n3_; clear hb hbox hg))
 go_loopg [6] k (fun kq v6 w' => ∃ (x6_1 : Int) (x335000_1 : Int) (x335001_1 : Int) (x335002_1 : Bool) (x335003_1 : Int) (x335004_1 : ByteArray) (x335005_1 : Bool) (x335006_1 : Int) (x335007_1 : ByteArray), v6 = .int .i64 x6_1 ∧ Aside0 (tithebarnlaw17_at.l0 kq l0 a1 x6_1 = some (r1, r2, r3, r4, r5, r6, r7, r8, r9)) ∧ Aside0 (kq ≤ k) ∧ Aside0 (w'.heap[gb334]? = some (.cells #[.int .i64 x335000_1, .int .i64 x335001_1, .bool x335002_1, .int .i64 x335003_1, .string x335004_1, .bool x335005_1, .int .i64 x335006_1, .string x335007_1] 38 (0, 0))) ∧ Aside0 (Below w.heap.size w w'))
 case atStart => exact ⟨(0), (0), (0), (false), (0), ((⟨#[]⟩ : ByteArray)), (false), (0), ((⟨#[]⟩ : ByteArray)), (by first | rfl | (simp; done) | (simp [*]; done)), H', ⟨Nat.le_refl _⟩, ⟨by (with_reducible repeat (first | refine blk_drewN ?_ _ | refine blk_drew ?_ | refine blk_alloc ?_ _)); exact BK334.out⟩, ⟨by repeat (first | (with_reducible first | exact HB.out | apply below_alloc | apply pw_below_drewN | apply below_drew1 | refine below_set ?_ GE334.out) | exact HB.out)⟩⟩
 case round =>
  clear H'
  try clear c1
  try clear p2
  obtain ⟨x6_1, x335000_1, x335001_1, x335002_1, x335003_1, x335004_1, x335005_1, x335006_1, x335007_1, rfl, HA, HK1, BK334, HB⟩ := hrel
  cases gk with
  | zero => exact absurd HA.out (by simp [tithebarnlaw17_at.l0])
  | succ k1 =>
   have H := HA.out
   clear HA
   simp only [tithebarnlaw17_at.l0] at H
   by_cases c4 : x6_1 < (l0.length : Int)
   ·rw [if_pos c4] at H
    have c4b0 : decide (x6_1 < (l0.length : Int)) = true := decide_eq_true c4
    clear c4
    by_cases c5 : 0 ≤ x6_1
    ·rw [if_pos c5] at H
     have c5b0 : decide (0 ≤ x6_1) = true := decide_eq_true c5
     clear c5
     by_cases c6 : ((rd_T38 l0 x6_1).f0) = a1
     ·rw [if_pos c6] at H
      have c6b0 : (((rd_T38 l0 x6_1).f0) == a1) = true := beq_iff_eq.mpr c6
      have c6b1 : (((rd_T38 l0 x6_1).f0) != a1) = false := bne_eq_false_iff_eq.mpr c6
      clear c6
      simp only [Option.some.injEq, Prod.mk.injEq] at H
      obtain ⟨rfl, rfl, rfl, rfl, rfl, rfl, rfl, rfl, rfl⟩ := H
      have p335 : 0 ≤ (x6_1 : Int) := of_decide_eq_true (by with_reducible assumption)
      have q335 : x6_1 < (l0.length : Int) := of_decide_eq_true (by with_reducible assumption)
      obtain ⟨ad335, e335, hx335_0, hx335_1, hx335_2, hx335_3, hx335_4, hx335_5, hx335_6, hx335_7⟩ := at_T38 HR0.out x6_1 p335 q335
      cases e335
      replace hx335_0 := pw_cell_below HB.out hx335_0
      replace hx335_1 := pw_cell_below HB.out hx335_1
      replace hx335_2 := pw_cell_below HB.out hx335_2
      replace hx335_3 := pw_cell_below HB.out hx335_3
      replace hx335_4 := pw_cell_below HB.out hx335_4
      replace hx335_5 := pw_cell_below HB.out hx335_5
      replace hx335_6 := pw_cell_below HB.out hx335_6
      replace hx335_7 := pw_cell_below HB.out hx335_7
      replace p335 := eq_true p335
      replace q335 := eq_true q335
      have p336 : 0 ≤ (x6_1 : Int) := of_decide_eq_true (by with_reducible assumption)
      have q336 : x6_1 < (l0.length : Int) := of_decide_eq_true (by with_reducible assumption)
      obtain ⟨ad336, e336, hx336_0, hx336_1, hx336_2, hx336_3, hx336_4, hx336_5, hx336_6, hx336_7⟩ := at_T38 HR0.out x6_1 p336 q336
      obtain rfl : ad335 = ad336 := (by injection e336)
      replace hx336_0 := pw_cell_below HB.out hx336_0
      replace hx336_1 := pw_cell_below HB.out hx336_1
      replace hx336_2 := pw_cell_below HB.out hx336_2
      replace hx336_3 := pw_cell_below HB.out hx336_3
      replace hx336_4 := pw_cell_below HB.out hx336_4
      replace hx336_5 := pw_cell_below HB.out hx336_5
      replace hx336_6 := pw_cell_below HB.out hx336_6
      replace hx336_7 := pw_cell_below HB.out hx336_7
      replace p336 := eq_true p336
      replace q336 := eq_true q336
      obtain ⟨hcz7_0, hcz7_1, hcz7_2, hcz7_3, hcz7_4, hcz7_5, hcz7_6, hcz7_7⟩ := bc8 BK334.out
      obtain ⟨hfz7_0, hfz7_1, hfz7_2, hfz7_3, hfz7_4, hfz7_5, hfz7_6, hfz7_7⟩ := bf8 BK334.out
      go_wp2
      refine bodyPost_ret (results_ct rfl _ _ gb334 38 #[.int .i64 ((rd_T38 l0 x6_1).f0), .int .i64 ((rd_T38 l0 x6_1).f1), .bool ((rd_T38 l0 x6_1).f2.f0), .int .i64 ((rd_T38 l0 x6_1).f2.f1), .string ((rd_T38 l0 x6_1).f2.f2), .bool ((rd_T38 l0 x6_1).f3.f0), .int .i64 ((rd_T38 l0 x6_1).f3.f1), .string ((rd_T38 l0 x6_1).f3.f2)] (0, 0) _ rfl (by refine blk_put (cs := #[.int .i64 ((rd_T38 l0 x6_1).f0), .int .i64 ((rd_T38 l0 x6_1).f1), .bool ((rd_T38 l0 x6_1).f2.f0), .int .i64 ((rd_T38 l0 x6_1).f2.f1), .string ((rd_T38 l0 x6_1).f2.f2), .bool ((rd_T38 l0 x6_1).f3.f0), .int .i64 ((rd_T38 l0 x6_1).f3.f1), .string x335007_1]) ?_ 7 _ rfl; refine blk_put (cs := #[.int .i64 ((rd_T38 l0 x6_1).f0), .int .i64 ((rd_T38 l0 x6_1).f1), .bool ((rd_T38 l0 x6_1).f2.f0), .int .i64 ((rd_T38 l0 x6_1).f2.f1), .string ((rd_T38 l0 x6_1).f2.f2), .bool ((rd_T38 l0 x6_1).f3.f0), .int .i64 x335006_1, .string x335007_1]) ?_ 6 _ rfl; refine blk_put (cs := #[.int .i64 ((rd_T38 l0 x6_1).f0), .int .i64 ((rd_T38 l0 x6_1).f1), .bool ((rd_T38 l0 x6_1).f2.f0), .int .i64 ((rd_T38 l0 x6_1).f2.f1), .string ((rd_T38 l0 x6_1).f2.f2), .bool x335005_1, .int .i64 x335006_1, .string x335007_1]) ?_ 5 _ rfl; refine blk_put (cs := #[.int .i64 ((rd_T38 l0 x6_1).f0), .int .i64 ((rd_T38 l0 x6_1).f1), .bool ((rd_T38 l0 x6_1).f2.f0), .int .i64 ((rd_T38 l0 x6_1).f2.f1), .string x335004_1, .bool x335005_1, .int .i64 x335006_1, .string x335007_1]) ?_ 4 _ rfl; refine blk_put (cs := #[.int .i64 ((rd_T38 l0 x6_1).f0), .int .i64 ((rd_T38 l0 x6_1).f1), .bool ((rd_T38 l0 x6_1).f2.f0), .int .i64 x335003_1, .string x335004_1, .bool x335005_1, .int .i64 x335006_1, .string x335007_1]) ?_ 3 _ rfl; refine blk_put (cs := #[.int .i64 ((rd_T38 l0 x6_1).f0), .int .i64 ((rd_T38 l0 x6_1).f1), .bool x335002_1, .int .i64 x335003_1, .string x335004_1, .bool x335005_1, .int .i64 x335006_1, .string x335007_1]) ?_ 2 _ rfl; refine blk_put (cs := #[.int .i64 ((rd_T38 l0 x6_1).f0), .int .i64 x335001_1, .bool x335002_1, .int .i64 x335003_1, .string x335004_1, .bool x335005_1, .int .i64 x335006_1, .string x335007_1]) ?_ 1 _ rfl; refine blk_put (cs := #[.int .i64 x335000_1, .int .i64 x335001_1, .bool x335002_1, .int .i64 x335003_1, .string x335004_1, .bool x335005_1, .int .i64 x335006_1, .string x335007_1]) ?_ 0 _ rfl; (with_reducible repeat (first | refine blk_drewN ?_ _ | refine blk_drew ?_ | refine blk_alloc ?_ _)); exact BK334.out) Try.underlying38 rfl (by kernel_rfl)) rfl ?_
      exact ⟨by first | rfl | (simp [errW_none, errW_some] <;> rfl) | (simp [*, errW_none, errW_some] <;> rfl), by repeat (first | (with_reducible first | exact HB.out | apply below_alloc | apply pw_below_drewN | apply below_drew1 | refine below_set ?_ GE334.out) | exact HB.out)⟩
     ·rw [if_neg c6] at H
      have c6b0 : (((rd_T38 l0 x6_1).f0) == a1) = false := beq_eq_false_iff_ne.mpr c6
      have c6b1 : (((rd_T38 l0 x6_1).f0) != a1) = true := bne_iff_ne.mpr c6
      have H' := Aside0.mk H
      clear H
      have p335 : 0 ≤ (x6_1 : Int) := of_decide_eq_true (by with_reducible assumption)
      have q335 : x6_1 < (l0.length : Int) := of_decide_eq_true (by with_reducible assumption)
      obtain ⟨ad335, e335, hx335_0, hx335_1, hx335_2, hx335_3, hx335_4, hx335_5, hx335_6, hx335_7⟩ := at_T38 HR0.out x6_1 p335 q335
      cases e335
      replace hx335_0 := pw_cell_below HB.out hx335_0
      replace hx335_1 := pw_cell_below HB.out hx335_1
      replace hx335_2 := pw_cell_below HB.out hx335_2
      replace hx335_3 := pw_cell_below HB.out hx335_3
      replace hx335_4 := pw_cell_below HB.out hx335_4
      replace hx335_5 := pw_cell_below HB.out hx335_5
      replace hx335_6 := pw_cell_below HB.out hx335_6
      replace hx335_7 := pw_cell_below HB.out hx335_7
      replace p335 := eq_true p335
      replace q335 := eq_true q335
      go_wp2
      go_roundg k1
      case measure => have := HK1.out; omega
      case rel => exact ⟨(wrap64 (x6_1 + 1)), (x335000_1), (x335001_1), (x335002_1), (x335003_1), (x335004_1), (x335005_1), (x335006_1), (x335007_1), (by first | rfl | (simp; done) | (simp [*]; done)), H', ⟨by have := HK1.out; omega⟩, ⟨by (with_reducible repeat (first | refine blk_drewN ?_ _ | refine blk_drew ?_ | refine blk_alloc ?_ _)); exact BK334.out⟩, ⟨by repeat (first | (with_reducible first | exact HB.out | apply below_alloc | apply pw_below_drewN | apply below_drew1 | refine below_set ?_ GE334.out) | exact HB.out)⟩⟩
    ·rw [if_neg c5] at H
     exact absurd H (by simp)
   ·rw [if_neg c4] at H
    have c4b0 : decide (x6_1 < (l0.length : Int)) = false := decide_eq_false c4
    clear c4
    simp only [Option.some.injEq, Prod.mk.injEq] at H
    obtain ⟨rfl, rfl, rfl, rfl, rfl, rfl, rfl, rfl, rfl⟩ := H
    obtain ⟨hcz8_0, hcz8_1, hcz8_2, hcz8_3, hcz8_4, hcz8_5, hcz8_6, hcz8_7⟩ := bc8 BK334.out
    obtain ⟨hfz8_0, hfz8_1, hfz8_2, hfz8_3, hfz8_4, hfz8_5, hfz8_6, hfz8_7⟩ := bf8 BK334.out
    go_wp2
    refine bodyPost_ret (results_ct rfl _ _ gb334 38 #[.int .i64 0, .int .i64 0, .bool false, .int .i64 0, .string (⟨#[]⟩ : ByteArray), .bool false, .int .i64 0, .string (⟨#[]⟩ : ByteArray)] (0, 0) _ rfl (by refine blk_put (cs := #[.int .i64 0, .int .i64 0, .bool false, .int .i64 0, .string (⟨#[]⟩ : ByteArray), .bool false, .int .i64 0, .string x335007_1]) ?_ 7 _ rfl; refine blk_put (cs := #[.int .i64 0, .int .i64 0, .bool false, .int .i64 0, .string (⟨#[]⟩ : ByteArray), .bool false, .int .i64 x335006_1, .string x335007_1]) ?_ 6 _ rfl; refine blk_put (cs := #[.int .i64 0, .int .i64 0, .bool false, .int .i64 0, .string (⟨#[]⟩ : ByteArray), .bool x335005_1, .int .i64 x335006_1, .string x335007_1]) ?_ 5 _ rfl; refine blk_put (cs := #[.int .i64 0, .int .i64 0, .bool false, .int .i64 0, .string x335004_1, .bool x335005_1, .int .i64 x335006_1, .string x335007_1]) ?_ 4 _ rfl; refine blk_put (cs := #[.int .i64 0, .int .i64 0, .bool false, .int .i64 x335003_1, .string x335004_1, .bool x335005_1, .int .i64 x335006_1, .string x335007_1]) ?_ 3 _ rfl; refine blk_put (cs := #[.int .i64 0, .int .i64 0, .bool x335002_1, .int .i64 x335003_1, .string x335004_1, .bool x335005_1, .int .i64 x335006_1, .string x335007_1]) ?_ 2 _ rfl; refine blk_put (cs := #[.int .i64 0, .int .i64 x335001_1, .bool x335002_1, .int .i64 x335003_1, .string x335004_1, .bool x335005_1, .int .i64 x335006_1, .string x335007_1]) ?_ 1 _ rfl; refine blk_put (cs := #[.int .i64 x335000_1, .int .i64 x335001_1, .bool x335002_1, .int .i64 x335003_1, .string x335004_1, .bool x335005_1, .int .i64 x335006_1, .string x335007_1]) ?_ 0 _ rfl; (with_reducible repeat (first | refine blk_drewN ?_ _ | refine blk_drew ?_ | refine blk_alloc ?_ _)); exact BK334.out) Try.underlying38 rfl (by kernel_rfl)) rfl ?_
    exact ⟨by first | rfl | (simp [errW_none, errW_some] <;> rfl) | (simp [*, errW_none, errW_some] <;> rfl), by repeat (first | (with_reducible first | exact HB.out | apply below_alloc | apply pw_below_drewN | apply below_drew1 | refine below_set ?_ GE334.out) | exact HB.out)⟩

end Go.Proofs.Ytcbgcmaioicdbaa.Pr
