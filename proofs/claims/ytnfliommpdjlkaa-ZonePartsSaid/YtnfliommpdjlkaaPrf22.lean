-- printed by xprint.py
import Derived.Test.YtnfliommpdjlkaaPr0
import Derived.Test.YtnfliommpdjlkaaPrf46
import Derived.Test.YtnfliommpdjlkaaPrf25
namespace Go.Proofs.Ytnfliommpdjlkaa.Pr
open Go.RowKit Go.Proofs.YtnfliommpdjlkaaW PrintWords PrintLast PrintMore
set_option linter.unusedVariables false
set_option linter.unusedSimpArgs false

/-! ### zone_Of: function 22 -/
def zone_Of.l0 : Nat → List (S27) → Int → Int → Bool → Bool → Bool → Int → ByteArray → Bool → Int → ByteArray → Option (Bool × Bool × Bool × Int × ByteArray × Bool × Int × ByteArray)
 | 0, _, _, _, _, _, _, _, _, _, _, _ => none
 | k + 1, x6, x7, x8, x162000, x162001, x162002, x162003, x162004, x162005, x162006, x162007 => if x8 < x7 then (if 0 ≤ x8 then (if x8 < (x6.length : Int) then (if (rd_T27 x6 x8).f0 = true then (zone_Of.l0 k x6 x7 (wrap64 (x8 + 1)) true x162001 x162002 x162003 x162004 x162005 x162006 x162007) else ((zone_span_c.f ((rd_T27 x6 x8).f0) ((rd_T27 x6 x8).f1) ((rd_T27 x6 x8).f2) ((rd_T27 x6 x8).f0) ((rd_T27 x6 x8).f1) ((rd_T27 x6 x8).f2)).bind fun bt164 => ((zone_Join_c.f x162000 x162001 x162002 x162003 x162004 x162005 x162006 x162007 bt164.1 bt164.2.1 bt164.2.2.1 bt164.2.2.2.1 bt164.2.2.2.2.1 bt164.2.2.2.2.2.1 bt164.2.2.2.2.2.2.1 bt164.2.2.2.2.2.2.2).bind fun bt172 => (zone_Of.l0 k x6 x7 (wrap64 (x8 + 1)) bt172.1 bt172.2.1 bt172.2.2.1 bt172.2.2.2.1 bt172.2.2.2.2.1 bt172.2.2.2.2.2.1 bt172.2.2.2.2.2.2.1 bt172.2.2.2.2.2.2.2)))) else (none)) else (none)) else (some (x162000, x162001, x162002, x162003, x162004, x162005, x162006, x162007))
def zone_Of.f (k : Nat) (l0 : List (S27)) : Option (Bool × Bool × Bool × Int × ByteArray × Bool × Int × ByteArray) := zone_Of.l0 k l0 (l0.length : Int) 0 false false false 0 (⟨#[]⟩ : ByteArray) false 0 (⟨#[]⟩ : ByteArray)
theorem zone_Of.mono_l : ∀ k, (∀ y0 y1 y2 y3 y4 y5 y6 y7 y8 y9 y10, LeO (zone_Of.l0 k y0 y1 y2 y3 y4 y5 y6 y7 y8 y9 y10) (zone_Of.l0 (k + 1) y0 y1 y2 y3 y4 y5 y6 y7 y8 y9 y10))
 | 0 => fun _ _ _ _ _ _ _ _ _ _ _ r h => by simp [zone_Of.l0] at h
 | k + 1 => by
  have ih0 := zone_Of.mono_l k
  ·intro y0 y1 y2 y3 y4 y5 y6 y7 y8 y9 y10
   unfold zone_Of.l0
   repeat' first
   | (with_reducible exact ih0 _ _ _ _ _ _ _ _ _ _ _)
   | (with_reducible exact LeO.refl _)
   | (with_reducible exact LeO.none _)
   | (with_reducible refine LeO.ite ?_ ?_)
   | (with_reducible refine LeO.bind ?_ (fun _ => ?_))
theorem zone_Of.mono : ∀ a0 k, LeO (zone_Of.f k a0) (zone_Of.f (k + 1) a0) := by
 intro a0 k
 have ih0 := zone_Of.mono_l k
 unfold zone_Of.f
 repeat' first
   | (with_reducible exact ih0 _ _ _ _ _ _ _ _ _ _ _)
   | (with_reducible exact LeO.refl _)
   | (with_reducible exact LeO.none _)
   | (with_reducible refine LeO.ite ?_ ?_)
   | (with_reducible refine LeO.bind ?_ (fun _ => ?_))
set_option maxHeartbeats 8000000 in
set_option maxRecDepth 100000 in
theorem zone_Of.calls (k : Nat) (A0 : Option Addr) (c0 : Nat) (l0 : List (S27)) (r1 : Bool) (r2 : Bool) (r3 : Bool) (r4 : Int) (r5 : ByteArray) (r6 : Bool) (r7 : Int) (r8 : ByteArray) (w : World) (hr0 : Kd.C k27 w A0 l0.length l0) (hc0 : l0.length ≤ c0) (h : zone_Of.f k l0 = some (r1, r2, r3, r4, r5, r6, r7, r8)) :
  Calls Try.prog 22 #[.slice A0 l0.length c0] w fun e w' => e = .returned (.agg #[.bool r1, .bool r2, .bool r3, .int .i64 r4, .string r5, .bool r6, .int .i64 r7, .string r8]) ∧ Below w.heap.size w w' := by
 have hu41 := Try.underlying41
 have hu27 := Try.underlying27
 have HR0 := Aside0.mk hr0
 have HC0 := Aside0.mk hc0
 clear hr0 hc0
 have HB := Aside0.mk (Below.refl w.heap.size w)
 have H : (zone_Of.l0 k l0 (l0.length : Int) 0 false false false 0 (⟨#[]⟩ : ByteArray) false 0 (⟨#[]⟩ : ByteArray)) = some (r1, r2, r3, r4, r5, r6, r7, r8) := h
 clear h
 have H' := Aside0.mk H
 clear H
 go_enter Try.func22, Try.ntmps22
 go_wp2_with (first | ((with_reducible refine gate_dst (N := 2) rfl ?_); refine box_event ?hg (N := 2) ?hd (cs := #[.bool false, .bool false, .bool false, .int .i64 0, .string (⟨#[]⟩ : ByteArray), .bool false, .int .i64 0, .string (⟨#[]⟩ : ByteArray)]) (t := 41) ?hr ?_; (case hd => rfl); (case hg => rfl); (case hr => first | (go_simp; done) | (go_simp; rfl)); intro gb160 hg w2 hbox hb; have n0_ := Aside0.mk (below_step (by with_reducible repeat first | exact HB.out | apply below_alloc | apply pw_below_drewN | apply below_drew1) hb); have n1_ := Aside0.mk (hbox); have n2_ := Aside0.mk ((by rw [hg]; exact (below_size (by with_reducible repeat first | exact HB.out | apply below_alloc | apply pw_below_drewN | apply below_drew1)) : w.heap.size ≤ gb160)); have n3_ := Aside0.mk ((by rw [hg]; exact (below_size (by with_reducible repeat first | exact HB.out | apply below_alloc | apply pw_below_drewN | apply below_drew1)) : w.heap.size ≤ gb160)); clear HB; have HB := n0_; have BK160 := n1_; have GW160 := n2_; have GE160 := n3_; clear n0_ n1_ n2_ n3_; clear hb hbox hg) | ((with_reducible refine gate_dst (N := 3) rfl ?_); refine box_event ?hg (N := 3) ?hd (cs := #[.bool false, .bool false, .bool false, .int .i64 0, .string (⟨#[]⟩ : ByteArray), .bool false, .int .i64 0, .string (⟨#[]⟩ : ByteArray)]) (t := 41) ?hr ?_; (case hd => rfl); (case hg => rfl); (case hr => first | (go_simp; done) | (go_simp; rfl)); intro gb161 hg w3 hbox hb; have n0_ := Aside0.mk (blk_below (g := gb160) (o := .cells #[.bool false, .bool false, .bool false, .int .i64 0, .string (⟨#[]⟩ : ByteArray), .bool false, .int .i64 0, .string (⟨#[]⟩ : ByteArray)] 41 (0, 0)) (by (with_reducible repeat (first | refine blk_drewN ?_ _ | refine blk_drew ?_ | refine blk_alloc ?_ _)); exact BK160.out) hb); have n1_ := Aside0.mk (below_step (by with_reducible repeat first | exact HB.out | apply below_alloc | apply pw_below_drewN | apply below_drew1 | refine below_set ?_ GE160.out) hb); have n2_ := Aside0.mk (hbox); have n3_ := Aside0.mk ((by rw [hg]; exact (below_size (by with_reducible repeat first | exact HB.out | apply below_alloc | apply pw_below_drewN | apply below_drew1 | refine below_set ?_ GE160.out)) : w.heap.size ≤ gb161)); have n4_ := Aside0.mk ((by rw [hg]; exact (below_size (by with_reducible repeat first | exact HB.out | apply below_alloc | apply pw_below_drewN | apply below_drew1 | refine below_set ?_ GE160.out)) : w.heap.size ≤ gb161)); have n5_ := Aside0.mk ((by rw [hg]; exact Nat.ne_of_lt (blk_lt (g := gb160) (o := .cells #[.bool false, .bool false, .bool false, .int .i64 0, .string (⟨#[]⟩ : ByteArray), .bool false, .int .i64 0, .string (⟨#[]⟩ : ByteArray)] 41 (0, 0)) (by (with_reducible repeat (first | refine blk_drewN ?_ _ | refine blk_drew ?_ | refine blk_alloc ?_ _)); exact BK160.out)) : gb160 ≠ gb161)); have n6_ := Aside0.mk ((by rw [hg]; exact Nat.ne_of_gt (blk_lt (g := gb160) (o := .cells #[.bool false, .bool false, .bool false, .int .i64 0, .string (⟨#[]⟩ : ByteArray), .bool false, .int .i64 0, .string (⟨#[]⟩ : ByteArray)] 41 (0, 0)) (by (with_reducible repeat (first | refine blk_drewN ?_ _ | refine blk_drew ?_ | refine blk_alloc ?_ _)); exact BK160.out)) : gb161 ≠ gb160)); clear BK160; clear HB; have BK160 := n0_; have HB := n1_; have BK161 := n2_; have GW161 := n3_; have GE161 := n4_; have NB160_161 := n5_; have NB161_160 := n6_; clear n0_ n1_ n2_ n3_ n4_ n5_ n6_; clear hb hbox hg))
 go_loopg [8] k (fun kq v8 w' => ∃ (x8_1 : Int) (x162000_1 : Bool) (x162001_1 : Bool) (x162002_1 : Bool) (x162003_1 : Int) (x162004_1 : ByteArray) (x162005_1 : Bool) (x162006_1 : Int) (x162007_1 : ByteArray), v8 = .int .i64 x8_1 ∧ Aside0 (zone_Of.l0 kq l0 (l0.length : Int) x8_1 x162000_1 x162001_1 x162002_1 x162003_1 x162004_1 x162005_1 x162006_1 x162007_1 = some (r1, r2, r3, r4, r5, r6, r7, r8)) ∧ Aside0 (kq ≤ k) ∧ Aside0 (w'.heap[gb160]? = some (.cells #[.bool false, .bool false, .bool false, .int .i64 0, .string (⟨#[]⟩ : ByteArray), .bool false, .int .i64 0, .string (⟨#[]⟩ : ByteArray)] 41 (0, 0))) ∧ Aside0 (w'.heap[gb161]? = some (.cells #[.bool x162000_1, .bool x162001_1, .bool x162002_1, .int .i64 x162003_1, .string x162004_1, .bool x162005_1, .int .i64 x162006_1, .string x162007_1] 41 (0, 0))) ∧ Aside0 (Below w.heap.size w w'))
 case atStart => exact ⟨(0), (false), (false), (false), (0), ((⟨#[]⟩ : ByteArray)), (false), (0), ((⟨#[]⟩ : ByteArray)), (by first | rfl | (simp; done) | (simp [*]; done)), H', ⟨Nat.le_refl _⟩, ⟨by (with_reducible repeat (first | refine blk_drewN ?_ _ | refine blk_drew ?_ | refine blk_alloc ?_ _)); exact BK160.out⟩, ⟨by (with_reducible repeat (first | refine blk_drewN ?_ _ | refine blk_drew ?_ | refine blk_alloc ?_ _)); exact BK161.out⟩, ⟨by repeat (first | (with_reducible first | exact HB.out | apply below_alloc | apply pw_below_drewN | apply below_drew1 | refine below_set ?_ GE160.out | refine below_set ?_ GE161.out) | exact HB.out)⟩⟩
 case round =>
  clear H'
  try clear c2
  try clear p2
  obtain ⟨x8_1, x162000_1, x162001_1, x162002_1, x162003_1, x162004_1, x162005_1, x162006_1, x162007_1, rfl, HA, HK1, BK160, BK161, HB⟩ := hrel
  cases gk with
  | zero => exact absurd HA.out (by simp [zone_Of.l0])
  | succ k1 =>
   have H := HA.out
   clear HA
   simp only [zone_Of.l0] at H
   by_cases c4 : x8_1 < (l0.length : Int)
   ·rw [if_pos c4] at H
    have c4b0 : decide (x8_1 < (l0.length : Int)) = true := decide_eq_true c4
    clear c4
    by_cases c5 : 0 ≤ x8_1
    ·rw [if_pos c5] at H
     have c5b0 : decide (0 ≤ x8_1) = true := decide_eq_true c5
     clear c5
     by_cases c6 : x8_1 < (l0.length : Int)
     ·rw [if_pos c6] at H
      have c6b0 : decide (x8_1 < (l0.length : Int)) = true := decide_eq_true c6
      clear c6
      obtain ⟨bq7, hbq7⟩ : ∃ b_ : Bool, b_ = ((rd_T27 l0 x8_1).f0) := ⟨_, rfl⟩
      replace H : (if bq7 = true then (zone_Of.l0 k1 l0 (l0.length : Int) (wrap64 (x8_1 + 1)) true x162001_1 x162002_1 x162003_1 x162004_1 x162005_1 x162006_1 x162007_1) else ((zone_span_c.f (bq7) ((rd_T27 l0 x8_1).f1) ((rd_T27 l0 x8_1).f2) (bq7) ((rd_T27 l0 x8_1).f1) ((rd_T27 l0 x8_1).f2)).bind fun bt164 => ((zone_Join_c.f x162000_1 x162001_1 x162002_1 x162003_1 x162004_1 x162005_1 x162006_1 x162007_1 bt164.1 bt164.2.1 bt164.2.2.1 bt164.2.2.2.1 bt164.2.2.2.2.1 bt164.2.2.2.2.2.1 bt164.2.2.2.2.2.2.1 bt164.2.2.2.2.2.2.2).bind fun bt172 => (zone_Of.l0 k1 l0 (l0.length : Int) (wrap64 (x8_1 + 1)) bt172.1 bt172.2.1 bt172.2.2.1 bt172.2.2.2.1 bt172.2.2.2.2.1 bt172.2.2.2.2.2.1 bt172.2.2.2.2.2.2.1 bt172.2.2.2.2.2.2.2)))) = some (r1, r2, r3, r4, r5, r6, r7, r8) := by rw [← hbq7] at H; exact H
      have Nbq7 := Aside0.mk hbq7
      clear hbq7
      by_cases c8 : bq7 = true
      ·subst c8
       have H1 : (zone_Of.l0 k1 l0 (l0.length : Int) (wrap64 (x8_1 + 1)) true x162001_1 x162002_1 x162003_1 x162004_1 x162005_1 x162006_1 x162007_1) = some (r1, r2, r3, r4, r5, r6, r7, r8) := by rw [if_pos rfl] at H; exact H
       clear H
       have H := H1
       clear H1
       have H' := Aside0.mk H
       clear H
       have p162 : 0 ≤ (x8_1 : Int) := of_decide_eq_true (by with_reducible assumption)
       have q162 : x8_1 < (l0.length : Int) := of_decide_eq_true (by with_reducible assumption)
       obtain ⟨ad162, e162, hx162_0, hx162_1, hx162_2⟩ := at_T27 HR0.out x8_1 p162 q162
       (try rw [← Nbq7.out] at hx162_0)
       cases e162
       replace hx162_0 := pw_cell_below HB.out hx162_0
       replace hx162_1 := pw_cell_below HB.out hx162_1
       replace hx162_2 := pw_cell_below HB.out hx162_2
       replace p162 := eq_true p162
       replace q162 := eq_true q162
       go_wp2_with (first | ((with_reducible refine gate_dst (N := 5) rfl ?_); refine box_event ?hg (N := 5) ?hd (cs := #[.bool false, .int .i64 0, .string (⟨#[]⟩ : ByteArray)]) (t := 27) ?hr ?_; (case hd => rfl); (case hg => rfl); (case hr => first | (go_simp; done) | (go_simp; rfl)); intro gb163 hg w9 hbox hb; have n0_ := Aside0.mk (blk_below (g := gb160) (o := .cells #[.bool false, .bool false, .bool false, .int .i64 0, .string (⟨#[]⟩ : ByteArray), .bool false, .int .i64 0, .string (⟨#[]⟩ : ByteArray)] 41 (0, 0)) (by (with_reducible repeat (first | refine blk_drewN ?_ _ | refine blk_drew ?_ | refine blk_alloc ?_ _)); exact BK160.out) hb); have n1_ := Aside0.mk (blk_below (g := gb161) (o := .cells #[.bool x162000_1, .bool x162001_1, .bool x162002_1, .int .i64 x162003_1, .string x162004_1, .bool x162005_1, .int .i64 x162006_1, .string x162007_1] 41 (0, 0)) (by (with_reducible repeat (first | refine blk_drewN ?_ _ | refine blk_drew ?_ | refine blk_alloc ?_ _)); exact BK161.out) hb); have n2_ := Aside0.mk (below_step (by with_reducible repeat first | exact HB.out | apply below_alloc | apply pw_below_drewN | apply below_drew1 | refine below_set ?_ GE160.out | refine below_set ?_ GE161.out) hb); have n3_ := Aside0.mk (hbox); have n4_ := Aside0.mk ((by rw [hg]; exact (below_size (by with_reducible repeat first | exact HB.out | apply below_alloc | apply pw_below_drewN | apply below_drew1 | refine below_set ?_ GE160.out | refine below_set ?_ GE161.out)) : w.heap.size ≤ gb163)); have n5_ := Aside0.mk ((by rw [hg]; exact (below_size (by with_reducible repeat first | exact HB.out | apply below_alloc | apply pw_below_drewN | apply below_drew1 | refine below_set ?_ GE160.out | refine below_set ?_ GE161.out)) : w.heap.size ≤ gb163)); have n6_ := Aside0.mk ((by rw [hg]; exact Nat.ne_of_lt (blk_lt (g := gb160) (o := .cells #[.bool false, .bool false, .bool false, .int .i64 0, .string (⟨#[]⟩ : ByteArray), .bool false, .int .i64 0, .string (⟨#[]⟩ : ByteArray)] 41 (0, 0)) (by (with_reducible repeat (first | refine blk_drewN ?_ _ | refine blk_drew ?_ | refine blk_alloc ?_ _)); exact BK160.out)) : gb160 ≠ gb163)); have n7_ := Aside0.mk ((by rw [hg]; exact Nat.ne_of_gt (blk_lt (g := gb160) (o := .cells #[.bool false, .bool false, .bool false, .int .i64 0, .string (⟨#[]⟩ : ByteArray), .bool false, .int .i64 0, .string (⟨#[]⟩ : ByteArray)] 41 (0, 0)) (by (with_reducible repeat (first | refine blk_drewN ?_ _ | refine blk_drew ?_ | refine blk_alloc ?_ _)); exact BK160.out)) : gb163 ≠ gb160)); have n8_ := Aside0.mk ((by rw [hg]; exact Nat.ne_of_lt (blk_lt (g := gb161) (o := .cells #[.bool x162000_1, .bool x162001_1, .bool x162002_1, .int .i64 x162003_1, .string x162004_1, .bool x162005_1, .int .i64 x162006_1, .string x162007_1] 41 (0, 0)) (by (with_reducible repeat (first | refine blk_drewN ?_ _ | refine blk_drew ?_ | refine blk_alloc ?_ _)); exact BK161.out)) : gb161 ≠ gb163)); have n9_ := Aside0.mk ((by rw [hg]; exact Nat.ne_of_gt (blk_lt (g := gb161) (o := .cells #[.bool x162000_1, .bool x162001_1, .bool x162002_1, .int .i64 x162003_1, .string x162004_1, .bool x162005_1, .int .i64 x162006_1, .string x162007_1] 41 (0, 0)) (by (with_reducible repeat (first | refine blk_drewN ?_ _ | refine blk_drew ?_ | refine blk_alloc ?_ _)); exact BK161.out)) : gb163 ≠ gb161)); clear BK160; clear BK161; clear HB; have BK160 := n0_; have BK161 := n1_; have HB := n2_; have BK163 := n3_; have GW163 := n4_; have GE163 := n5_; have NB160_163 := n6_; have NB163_160 := n7_; have NB161_163 := n8_; have NB163_161 := n9_; clear n0_ n1_ n2_ n3_ n4_ n5_ n6_ n7_ n8_ n9_; clear hb hbox hg; have hnb10 := NB163_160.out; have hnc10 := NB160_163.out; have hnb11 := NB163_161.out; have hnc11 := NB161_163.out; obtain ⟨hcz12_0, hcz12_1, hcz12_2⟩ := bc3 BK163.out; obtain ⟨hfz12_0, hfz12_1, hfz12_2⟩ := bf3 BK163.out; have hnb13 := NB161_160.out; have hnc13 := NB160_161.out; obtain ⟨hcz14_0, hcz14_1, hcz14_2, hcz14_3, hcz14_4, hcz14_5, hcz14_6, hcz14_7⟩ := bc8 BK161.out; obtain ⟨hfz14_0, hfz14_1, hfz14_2, hfz14_3, hfz14_4, hfz14_5, hfz14_6, hfz14_7⟩ := bf8 BK161.out))
       go_roundg k1
       case measure => have := HK1.out; omega
       case rel => exact ⟨(wrap64 (x8_1 + 1)), (true), (x162001_1), (x162002_1), (x162003_1), (x162004_1), (x162005_1), (x162006_1), (x162007_1), (by first | rfl | (simp; done) | (simp [*]; done)), H', ⟨by have := HK1.out; omega⟩, ⟨by refine blk_far ?_ NB160_161.out _; (iterate 3 (refine blk_far ?_ NB160_163.out _)); (with_reducible repeat (first | refine blk_drewN ?_ _ | refine blk_drew ?_ | refine blk_alloc ?_ _)); exact BK160.out⟩, ⟨by refine blk_put (cs := #[.bool x162000_1, .bool x162001_1, .bool x162002_1, .int .i64 x162003_1, .string x162004_1, .bool x162005_1, .int .i64 x162006_1, .string x162007_1]) ?_ 0 _ rfl; (iterate 3 (refine blk_far ?_ NB161_163.out _)); (with_reducible repeat (first | refine blk_drewN ?_ _ | refine blk_drew ?_ | refine blk_alloc ?_ _)); exact BK161.out⟩, ⟨by repeat (first | (with_reducible first | exact HB.out | apply below_alloc | apply pw_below_drewN | apply below_drew1 | refine below_set ?_ GE160.out | refine below_set ?_ GE161.out | refine below_set ?_ GE163.out) | exact HB.out)⟩⟩
      ·replace c8 := Bool.eq_false_iff.mpr c8
       subst c8
       have H1 : ((zone_span_c.f (false) ((rd_T27 l0 x8_1).f1) ((rd_T27 l0 x8_1).f2) (false) ((rd_T27 l0 x8_1).f1) ((rd_T27 l0 x8_1).f2)).bind fun bt164 => ((zone_Join_c.f x162000_1 x162001_1 x162002_1 x162003_1 x162004_1 x162005_1 x162006_1 x162007_1 bt164.1 bt164.2.1 bt164.2.2.1 bt164.2.2.2.1 bt164.2.2.2.2.1 bt164.2.2.2.2.2.1 bt164.2.2.2.2.2.2.1 bt164.2.2.2.2.2.2.2).bind fun bt172 => (zone_Of.l0 k1 l0 (l0.length : Int) (wrap64 (x8_1 + 1)) bt172.1 bt172.2.1 bt172.2.2.1 bt172.2.2.2.1 bt172.2.2.2.2.1 bt172.2.2.2.2.2.1 bt172.2.2.2.2.2.2.1 bt172.2.2.2.2.2.2.2))) = some (r1, r2, r3, r4, r5, r6, r7, r8) := by rw [if_neg (show ¬ (false = true) by decide)] at H; exact H
       clear H
       have H := H1
       clear H1
       replace H := Option.bind_eq_some_iff.mp H
       obtain ⟨⟨t164, t165, t166, t167, t168, t169, t170, t171⟩, A150, H⟩ := H
       replace H : ((zone_Join_c.f x162000_1 x162001_1 x162002_1 x162003_1 x162004_1 x162005_1 x162006_1 x162007_1 t164 t165 t166 t167 t168 t169 t170 t171).bind fun bt172 => (zone_Of.l0 k1 l0 (l0.length : Int) (wrap64 (x8_1 + 1)) bt172.1 bt172.2.1 bt172.2.2.1 bt172.2.2.2.1 bt172.2.2.2.2.1 bt172.2.2.2.2.2.1 bt172.2.2.2.2.2.2.1 bt172.2.2.2.2.2.2.2)) = some (r1, r2, r3, r4, r5, r6, r7, r8) := H
       have A15 := Aside0.mk A150
       clear A150
       replace H := Option.bind_eq_some_iff.mp H
       obtain ⟨⟨t172, t173, t174, t175, t176, t177, t178, t179⟩, A160, H⟩ := H
       replace H : (zone_Of.l0 k1 l0 (l0.length : Int) (wrap64 (x8_1 + 1)) t172 t173 t174 t175 t176 t177 t178 t179) = some (r1, r2, r3, r4, r5, r6, r7, r8) := H
       have A16 := Aside0.mk A160
       clear A160
       have H' := Aside0.mk H
       clear H
       have p162 : 0 ≤ (x8_1 : Int) := of_decide_eq_true (by with_reducible assumption)
       have q162 : x8_1 < (l0.length : Int) := of_decide_eq_true (by with_reducible assumption)
       obtain ⟨ad162, e162, hx162_0, hx162_1, hx162_2⟩ := at_T27 HR0.out x8_1 p162 q162
       (try rw [← Nbq7.out] at hx162_0)
       cases e162
       replace hx162_0 := pw_cell_below HB.out hx162_0
       replace hx162_1 := pw_cell_below HB.out hx162_1
       replace hx162_2 := pw_cell_below HB.out hx162_2
       replace p162 := eq_true p162
       replace q162 := eq_true q162
       try go_wp2_with (first | ((with_reducible refine gate_dst (N := 5) rfl ?_); refine box_event ?hg (N := 5) ?hd (cs := #[.bool false, .int .i64 0, .string (⟨#[]⟩ : ByteArray)]) (t := 27) ?hr ?_; (case hd => rfl); (case hg => rfl); (case hr => first | (go_simp; done) | (go_simp; rfl)); intro gb163 hg w17 hbox hb; have n0_ := Aside0.mk (blk_below (g := gb160) (o := .cells #[.bool false, .bool false, .bool false, .int .i64 0, .string (⟨#[]⟩ : ByteArray), .bool false, .int .i64 0, .string (⟨#[]⟩ : ByteArray)] 41 (0, 0)) (by (with_reducible repeat (first | refine blk_drewN ?_ _ | refine blk_drew ?_ | refine blk_alloc ?_ _)); exact BK160.out) hb); have n1_ := Aside0.mk (blk_below (g := gb161) (o := .cells #[.bool x162000_1, .bool x162001_1, .bool x162002_1, .int .i64 x162003_1, .string x162004_1, .bool x162005_1, .int .i64 x162006_1, .string x162007_1] 41 (0, 0)) (by (with_reducible repeat (first | refine blk_drewN ?_ _ | refine blk_drew ?_ | refine blk_alloc ?_ _)); exact BK161.out) hb); have n2_ := Aside0.mk (below_step (by with_reducible repeat first | exact HB.out | apply below_alloc | apply pw_below_drewN | apply below_drew1 | refine below_set ?_ GE160.out | refine below_set ?_ GE161.out) hb); have n3_ := Aside0.mk (hbox); have n4_ := Aside0.mk ((by rw [hg]; exact (below_size (by with_reducible repeat first | exact HB.out | apply below_alloc | apply pw_below_drewN | apply below_drew1 | refine below_set ?_ GE160.out | refine below_set ?_ GE161.out)) : w.heap.size ≤ gb163)); have n5_ := Aside0.mk ((by rw [hg]; exact (below_size (by with_reducible repeat first | exact HB.out | apply below_alloc | apply pw_below_drewN | apply below_drew1 | refine below_set ?_ GE160.out | refine below_set ?_ GE161.out)) : w.heap.size ≤ gb163)); have n6_ := Aside0.mk ((by rw [hg]; exact Nat.ne_of_lt (blk_lt (g := gb160) (o := .cells #[.bool false, .bool false, .bool false, .int .i64 0, .string (⟨#[]⟩ : ByteArray), .bool false, .int .i64 0, .string (⟨#[]⟩ : ByteArray)] 41 (0, 0)) (by (with_reducible repeat (first | refine blk_drewN ?_ _ | refine blk_drew ?_ | refine blk_alloc ?_ _)); exact BK160.out)) : gb160 ≠ gb163)); have n7_ := Aside0.mk ((by rw [hg]; exact Nat.ne_of_gt (blk_lt (g := gb160) (o := .cells #[.bool false, .bool false, .bool false, .int .i64 0, .string (⟨#[]⟩ : ByteArray), .bool false, .int .i64 0, .string (⟨#[]⟩ : ByteArray)] 41 (0, 0)) (by (with_reducible repeat (first | refine blk_drewN ?_ _ | refine blk_drew ?_ | refine blk_alloc ?_ _)); exact BK160.out)) : gb163 ≠ gb160)); have n8_ := Aside0.mk ((by rw [hg]; exact Nat.ne_of_lt (blk_lt (g := gb161) (o := .cells #[.bool x162000_1, .bool x162001_1, .bool x162002_1, .int .i64 x162003_1, .string x162004_1, .bool x162005_1, .int .i64 x162006_1, .string x162007_1] 41 (0, 0)) (by (with_reducible repeat (first | refine blk_drewN ?_ _ | refine blk_drew ?_ | refine blk_alloc ?_ _)); exact BK161.out)) : gb161 ≠ gb163)); have n9_ := Aside0.mk ((by rw [hg]; exact Nat.ne_of_gt (blk_lt (g := gb161) (o := .cells #[.bool x162000_1, .bool x162001_1, .bool x162002_1, .int .i64 x162003_1, .string x162004_1, .bool x162005_1, .int .i64 x162006_1, .string x162007_1] 41 (0, 0)) (by (with_reducible repeat (first | refine blk_drewN ?_ _ | refine blk_drew ?_ | refine blk_alloc ?_ _)); exact BK161.out)) : gb163 ≠ gb161)); clear BK160; clear BK161; clear HB; have BK160 := n0_; have BK161 := n1_; have HB := n2_; have BK163 := n3_; have GW163 := n4_; have GE163 := n5_; have NB160_163 := n6_; have NB163_160 := n7_; have NB161_163 := n8_; have NB163_161 := n9_; clear n0_ n1_ n2_ n3_ n4_ n5_ n6_ n7_ n8_ n9_; clear hb hbox hg; have hnb18 := NB163_160.out; have hnc18 := NB160_163.out; have hnb19 := NB163_161.out; have hnc19 := NB161_163.out; obtain ⟨hcz20_0, hcz20_1, hcz20_2⟩ := bc3 BK163.out; obtain ⟨hfz20_0, hfz20_1, hfz20_2⟩ := bf3 BK163.out))
       have n0_ : Aside0 ((((w17.setCell ⟨gb163, 0, none⟩ (.bool false)).setCell ⟨gb163, 1, none⟩ (.int .i64 ((rd_T27 l0 x8_1).f1))).setCell ⟨gb163, 2, none⟩ (.string ((rd_T27 l0 x8_1).f2))).heap[gb160]? = some (.cells #[.bool false, .bool false, .bool false, .int .i64 0, .string (⟨#[]⟩ : ByteArray), .bool false, .int .i64 0, .string (⟨#[]⟩ : ByteArray)] 41 (0, 0))) := ⟨by (iterate 3 (refine blk_far ?_ NB160_163.out _)); (with_reducible repeat (first | refine blk_drewN ?_ _ | refine blk_drew ?_ | refine blk_alloc ?_ _)); exact BK160.out⟩
       have n1_ : Aside0 ((((w17.setCell ⟨gb163, 0, none⟩ (.bool false)).setCell ⟨gb163, 1, none⟩ (.int .i64 ((rd_T27 l0 x8_1).f1))).setCell ⟨gb163, 2, none⟩ (.string ((rd_T27 l0 x8_1).f2))).heap[gb161]? = some (.cells #[.bool x162000_1, .bool x162001_1, .bool x162002_1, .int .i64 x162003_1, .string x162004_1, .bool x162005_1, .int .i64 x162006_1, .string x162007_1] 41 (0, 0))) := ⟨by (iterate 3 (refine blk_far ?_ NB161_163.out _)); (with_reducible repeat (first | refine blk_drewN ?_ _ | refine blk_drew ?_ | refine blk_alloc ?_ _)); exact BK161.out⟩
       have n2_ : Aside0 ((((w17.setCell ⟨gb163, 0, none⟩ (.bool false)).setCell ⟨gb163, 1, none⟩ (.int .i64 ((rd_T27 l0 x8_1).f1))).setCell ⟨gb163, 2, none⟩ (.string ((rd_T27 l0 x8_1).f2))).heap[gb163]? = some (.cells #[.bool false, .int .i64 ((rd_T27 l0 x8_1).f1), .string ((rd_T27 l0 x8_1).f2)] 27 (0, 0))) := ⟨by refine blk_put (cs := #[.bool false, .int .i64 ((rd_T27 l0 x8_1).f1), .string (⟨#[]⟩ : ByteArray)]) ?_ 2 _ rfl; refine blk_put (cs := #[.bool false, .int .i64 0, .string (⟨#[]⟩ : ByteArray)]) ?_ 1 _ rfl; refine blk_put (cs := #[.bool false, .int .i64 0, .string (⟨#[]⟩ : ByteArray)]) ?_ 0 _ rfl; (with_reducible repeat (first | refine blk_drewN ?_ _ | refine blk_drew ?_ | refine blk_alloc ?_ _)); exact BK163.out⟩
       have n3_ : Aside0 (Below w.heap.size w (((w17.setCell ⟨gb163, 0, none⟩ (.bool false)).setCell ⟨gb163, 1, none⟩ (.int .i64 ((rd_T27 l0 x8_1).f1))).setCell ⟨gb163, 2, none⟩ (.string ((rd_T27 l0 x8_1).f2)))) := ⟨by repeat (first | (with_reducible first | exact HB.out | apply below_alloc | apply pw_below_drewN | apply below_drew1 | refine below_set ?_ GE160.out | refine below_set ?_ GE161.out | refine below_set ?_ GE163.out) | exact HB.out)⟩
       (try clear BK160)
       (try clear BK161)
       (try clear BK163)
       (try clear HB)
       generalize (((w17.setCell ⟨gb163, 0, none⟩ (.bool false)).setCell ⟨gb163, 1, none⟩ (.int .i64 ((rd_T27 l0 x8_1).f1))).setCell ⟨gb163, 2, none⟩ (.string ((rd_T27 l0 x8_1).f2))) = w21 at n0_ n1_ n2_ n3_ ⊢
       have BK160 := n0_
       have BK161 := n1_
       have BK163 := n2_
       have HB := n3_
       clear n0_ n1_ n2_ n3_
       have n0_ := Aside0.mk (blk_drew BK160.out)
       have n1_ := Aside0.mk (blk_drew BK161.out)
       have n2_ := Aside0.mk (blk_drew BK163.out)
       have n3_ := Aside0.mk (below_drew1 HB.out)
       clear BK160
       clear BK161
       clear BK163
       clear HB
       have BK160 := n0_
       have BK161 := n1_
       have BK163 := n2_
       have HB := n3_
       clear n0_ n1_ n2_ n3_
       refine start_ (n := 6) (S := fun w' => w'.cell? ⟨gb161, 0, none⟩ = some (.bool x162000_1) ∧ w'.cell? ⟨gb161, 1, none⟩ = some (.bool x162001_1) ∧ w'.cell? ⟨gb161, 2, none⟩ = some (.bool x162002_1) ∧ w'.cell? ⟨gb161, 3, none⟩ = some (.int .i64 x162003_1) ∧ w'.cell? ⟨gb161, 4, none⟩ = some (.string x162004_1) ∧ w'.cell? ⟨gb161, 5, none⟩ = some (.bool x162005_1) ∧ w'.cell? ⟨gb161, 6, none⟩ = some (.int .i64 x162006_1) ∧ w'.cell? ⟨gb161, 7, none⟩ = some (.string x162007_1) ∧ w'.cell? ⟨gb163, 0, none⟩ = some (.bool false) ∧ w'.cell? ⟨gb163, 1, none⟩ = some (.int .i64 ((rd_T27 l0 x8_1).f1)) ∧ w'.cell? ⟨gb163, 2, none⟩ = some (.string ((rd_T27 l0 x8_1).f2))) (ds := [5]) #[false, false, false, false, false, false] (by kernel_rfl) rfl rfl ⟨(blk_cell BK161.out 0).trans rfl, (blk_cell BK161.out 1).trans rfl, (blk_cell BK161.out 2).trans rfl, (blk_cell BK161.out 3).trans rfl, (blk_cell BK161.out 4).trans rfl, (blk_cell BK161.out 5).trans rfl, (blk_cell BK161.out 6).trans rfl, (blk_cell BK161.out 7).trans rfl, (blk_cell BK163.out 0).trans rfl, (blk_cell BK163.out 1).trans rfl, (blk_cell BK163.out 2).trans rfl⟩ (fun hHeld => ?_)
       generalize w21.drew = w22 at BK160 BK161 BK163 HB hHeld ⊢
       refine take_ (i := 0) (N := some 15) (v := ?_) (a' := ?_) #[true, false, false, false, false, false] rfl rfl (by kernel_rfl) (fun _ _ _ h => h) (Or.inl ⟨by rfl, ?_⟩) hHeld ?_ ?_
       rotate_left
       ·rintro w' ⟨s0, s1, s2, s3, s4, s5, s6, s7, s8, s9, s10⟩
        go_simp
        with_reducible rfl
       rotate_left
       ·simp only [Act.put, List.setIfInBounds_toArray, List.set_cons_zero, List.set_cons_succ, i64_w, i32_w]
        rfl
       refine take_ (i := 1) (N := some 16) (v := ?_) (a' := ?_) #[true, true, false, false, false, false] rfl rfl (by kernel_rfl) (fun _ _ _ h => h) (Or.inl ⟨by rfl, ?_⟩) hHeld ?_ ?_
       rotate_left
       ·rintro w' ⟨s0, s1, s2, s3, s4, s5, s6, s7, s8, s9, s10⟩
        go_simp
        with_reducible rfl
       rotate_left
       ·simp only [Act.put, List.setIfInBounds_toArray, List.set_cons_zero, List.set_cons_succ, i64_w, i32_w]
        rfl
       refine take_ (i := 2) (N := some 17) (v := ?_) (a' := ?_) #[true, true, true, false, false, false] rfl rfl (by kernel_rfl) (fun _ _ _ h => h) (Or.inl ⟨by rfl, ?_⟩) hHeld ?_ ?_
       rotate_left
       ·rintro w' ⟨s0, s1, s2, s3, s4, s5, s6, s7, s8, s9, s10⟩
        go_simp
        with_reducible rfl
       rotate_left
       ·simp only [Act.put, List.setIfInBounds_toArray, List.set_cons_zero, List.set_cons_succ, i64_w, i32_w]
        rfl
       refine one_ (i := 3) (N := some 18) #[true, true, true, true, false, false] rfl rfl (by kernel_rfl) (by decide) (fun K hK => ?_)
       refine goes_ Try.func46 (by kernel_rfl) rfl #[.agg #[.bool false, .int .i64 ((rd_T27 l0 x8_1).f1), .string ((rd_T27 l0 x8_1).f2)], .agg #[.bool false, .int .i64 ((rd_T27 l0 x8_1).f1), .string ((rd_T27 l0 x8_1).f2)]] (by rfl) rfl rfl (by (try simp only [List.map_toArray, List.map_cons, List.map_nil]); first | done | rfl | (simp only [List.length_drop, List.length_take]; rfl)) ?_
       with_reducible refine (zone_span_c.calls false ((rd_T27 l0 x8_1).f1) ((rd_T27 l0 x8_1).f2) false ((rd_T27 l0 x8_1).f1) ((rd_T27 l0 x8_1).f2) t164 t165 t166 t167 t168 t169 t170 t171 _ (by first | exact A15.out | (have z_ := A15.out; (try rw [← Nbq7.out] at z_); exact z_))).mono ?_
       rintro e w23 ⟨rfl, hb⟩
       refine ⟨_, rfl, ?_⟩
       have n0_ := Aside0.mk (blk_below (g := gb160) (o := .cells #[.bool false, .bool false, .bool false, .int .i64 0, .string (⟨#[]⟩ : ByteArray), .bool false, .int .i64 0, .string (⟨#[]⟩ : ByteArray)] 41 (0, 0)) (by (with_reducible repeat (first | refine blk_drewN ?_ _ | refine blk_drew ?_ | refine blk_alloc ?_ _)); exact BK160.out) hb)
       have n1_ := Aside0.mk (blk_below (g := gb161) (o := .cells #[.bool x162000_1, .bool x162001_1, .bool x162002_1, .int .i64 x162003_1, .string x162004_1, .bool x162005_1, .int .i64 x162006_1, .string x162007_1] 41 (0, 0)) (by (with_reducible repeat (first | refine blk_drewN ?_ _ | refine blk_drew ?_ | refine blk_alloc ?_ _)); exact BK161.out) hb)
       have n2_ := Aside0.mk (blk_below (g := gb163) (o := .cells #[.bool false, .int .i64 ((rd_T27 l0 x8_1).f1), .string ((rd_T27 l0 x8_1).f2)] 27 (0, 0)) (by (with_reducible repeat (first | refine blk_drewN ?_ _ | refine blk_drew ?_ | refine blk_alloc ?_ _)); exact BK163.out) hb)
       have n3_ := Aside0.mk (below_step (by with_reducible repeat first | exact HB.out | apply below_alloc | apply pw_below_drewN | apply below_drew1 | refine below_set ?_ GE160.out | refine below_set ?_ GE161.out | refine below_set ?_ GE163.out) hb)
       clear BK160
       clear BK161
       clear BK163
       clear HB
       have BK160 := n0_
       have BK161 := n1_
       have BK163 := n2_
       have HB := n3_
       clear n0_ n1_ n2_ n3_
       (try clear hb)
       (try clear hb2)
       (try clear hk)
       (try clear hi)
       refine hK.out _ _ ⟨(blk_cell BK161.out 0).trans rfl, (blk_cell BK161.out 1).trans rfl, (blk_cell BK161.out 2).trans rfl, (blk_cell BK161.out 3).trans rfl, (blk_cell BK161.out 4).trans rfl, (blk_cell BK161.out 5).trans rfl, (blk_cell BK161.out 6).trans rfl, (blk_cell BK161.out 7).trans rfl, (blk_cell BK163.out 0).trans rfl, (blk_cell BK163.out 1).trans rfl, (blk_cell BK163.out 2).trans rfl⟩ (fun hHeld => ?_)
       clear hK K
       refine norm_ (a' := ?_) ?_ ?_
       rotate_left
       ·show Act.put _ (some 18) _ = _
        simp only [Act.put, List.setIfInBounds_toArray, List.set_cons_zero, List.set_cons_succ, i64_w, i32_w]
        rfl
       refine one_ (i := 4) (N := some 19) #[true, true, true, true, true, false] rfl rfl (by kernel_rfl) (by decide) (fun K hK => ?_)
       refine goes_ Try.func25 (by kernel_rfl) rfl #[.agg #[.bool x162000_1, .bool x162001_1, .bool x162002_1, .int .i64 x162003_1, .string x162004_1, .bool x162005_1, .int .i64 x162006_1, .string x162007_1], .agg #[.bool t164, .bool t165, .bool t166, .int .i64 t167, .string t168, .bool t169, .int .i64 t170, .string t171]] (by rfl) rfl rfl (by (try simp only [List.map_toArray, List.map_cons, List.map_nil]); first | done | rfl | (simp only [List.length_drop, List.length_take]; rfl)) ?_
       with_reducible refine (zone_Join_c.calls x162000_1 x162001_1 x162002_1 x162003_1 x162004_1 x162005_1 x162006_1 x162007_1 t164 t165 t166 t167 t168 t169 t170 t171 t172 t173 t174 t175 t176 t177 t178 t179 _ (by first | exact A16.out | (have z_ := A16.out; (try rw [← Nbq7.out] at z_); exact z_))).mono ?_
       rintro e w24 ⟨rfl, hb⟩
       refine ⟨_, rfl, ?_⟩
       have n0_ := Aside0.mk (blk_below (g := gb160) (o := .cells #[.bool false, .bool false, .bool false, .int .i64 0, .string (⟨#[]⟩ : ByteArray), .bool false, .int .i64 0, .string (⟨#[]⟩ : ByteArray)] 41 (0, 0)) (by (with_reducible repeat (first | refine blk_drewN ?_ _ | refine blk_drew ?_ | refine blk_alloc ?_ _)); exact BK160.out) hb)
       have n1_ := Aside0.mk (blk_below (g := gb161) (o := .cells #[.bool x162000_1, .bool x162001_1, .bool x162002_1, .int .i64 x162003_1, .string x162004_1, .bool x162005_1, .int .i64 x162006_1, .string x162007_1] 41 (0, 0)) (by (with_reducible repeat (first | refine blk_drewN ?_ _ | refine blk_drew ?_ | refine blk_alloc ?_ _)); exact BK161.out) hb)
       have n2_ := Aside0.mk (blk_below (g := gb163) (o := .cells #[.bool false, .int .i64 ((rd_T27 l0 x8_1).f1), .string ((rd_T27 l0 x8_1).f2)] 27 (0, 0)) (by (with_reducible repeat (first | refine blk_drewN ?_ _ | refine blk_drew ?_ | refine blk_alloc ?_ _)); exact BK163.out) hb)
       have n3_ := Aside0.mk (below_step (by with_reducible repeat first | exact HB.out | apply below_alloc | apply pw_below_drewN | apply below_drew1 | refine below_set ?_ GE160.out | refine below_set ?_ GE161.out | refine below_set ?_ GE163.out) hb)
       clear BK160
       clear BK161
       clear BK163
       clear HB
       have BK160 := n0_
       have BK161 := n1_
       have BK163 := n2_
       have HB := n3_
       clear n0_ n1_ n2_ n3_
       (try clear hb)
       (try clear hb2)
       (try clear hk)
       (try clear hi)
       refine hK.out _ _ ⟨(blk_cell BK161.out 0).trans rfl, (blk_cell BK161.out 1).trans rfl, (blk_cell BK161.out 2).trans rfl, (blk_cell BK161.out 3).trans rfl, (blk_cell BK161.out 4).trans rfl, (blk_cell BK161.out 5).trans rfl, (blk_cell BK161.out 6).trans rfl, (blk_cell BK161.out 7).trans rfl, (blk_cell BK163.out 0).trans rfl, (blk_cell BK163.out 1).trans rfl, (blk_cell BK163.out 2).trans rfl⟩ (fun hHeld => ?_)
       clear hK K
       refine norm_ (a' := ?_) ?_ ?_
       rotate_left
       ·show Act.put _ (some 19) _ = _
        simp only [Act.put, List.setIfInBounds_toArray, List.set_cons_zero, List.set_cons_succ, i64_w, i32_w]
        rfl
       refine last_ (i := 5) (N := none) #[true, true, true, true, true, true] rfl rfl (by kernel_rfl) (by decide) (fun K hK => ?_)
       have hs25 : w24.cell? ⟨gb161, 0, none⟩ = some (.bool x162000_1) := (blk_cell BK161.out 0).trans rfl
       have hfs25 := blk_frozen BK161.out 0
       have hns25_0 := NB160_161.out
       have hns25_2 := NB163_161.out
       have hms25_0 := NB161_160.out
       have hms25_2 := NB161_163.out
       have hs26 : w24.cell? ⟨gb161, 1, none⟩ = some (.bool x162001_1) := (blk_cell BK161.out 1).trans rfl
       have hfs26 := blk_frozen BK161.out 1
       have hns26_0 := NB160_161.out
       have hns26_2 := NB163_161.out
       have hms26_0 := NB161_160.out
       have hms26_2 := NB161_163.out
       have hs27 : w24.cell? ⟨gb161, 2, none⟩ = some (.bool x162002_1) := (blk_cell BK161.out 2).trans rfl
       have hfs27 := blk_frozen BK161.out 2
       have hns27_0 := NB160_161.out
       have hns27_2 := NB163_161.out
       have hms27_0 := NB161_160.out
       have hms27_2 := NB161_163.out
       have hs28 : w24.cell? ⟨gb161, 3, none⟩ = some (.int .i64 x162003_1) := (blk_cell BK161.out 3).trans rfl
       have hfs28 := blk_frozen BK161.out 3
       have hns28_0 := NB160_161.out
       have hns28_2 := NB163_161.out
       have hms28_0 := NB161_160.out
       have hms28_2 := NB161_163.out
       have hs29 : w24.cell? ⟨gb161, 4, none⟩ = some (.string x162004_1) := (blk_cell BK161.out 4).trans rfl
       have hfs29 := blk_frozen BK161.out 4
       have hns29_0 := NB160_161.out
       have hns29_2 := NB163_161.out
       have hms29_0 := NB161_160.out
       have hms29_2 := NB161_163.out
       have hs30 : w24.cell? ⟨gb161, 5, none⟩ = some (.bool x162005_1) := (blk_cell BK161.out 5).trans rfl
       have hfs30 := blk_frozen BK161.out 5
       have hns30_0 := NB160_161.out
       have hns30_2 := NB163_161.out
       have hms30_0 := NB161_160.out
       have hms30_2 := NB161_163.out
       have hs31 : w24.cell? ⟨gb161, 6, none⟩ = some (.int .i64 x162006_1) := (blk_cell BK161.out 6).trans rfl
       have hfs31 := blk_frozen BK161.out 6
       have hns31_0 := NB160_161.out
       have hns31_2 := NB163_161.out
       have hms31_0 := NB161_160.out
       have hms31_2 := NB161_163.out
       have hs32 : w24.cell? ⟨gb161, 7, none⟩ = some (.string x162007_1) := (blk_cell BK161.out 7).trans rfl
       have hfs32 := blk_frozen BK161.out 7
       have hns32_0 := NB160_161.out
       have hns32_2 := NB163_161.out
       have hms32_0 := NB161_160.out
       have hms32_2 := NB161_163.out
       refine skip_ (w1 := ?_) (by rfl) rfl ?_ ?_
       rotate_left
       ·go_simp
        rfl
       refine hK.out _ _ ?_
       clear hK K
       refine done_ (by kernel_rfl) ?_
       try go_wp2
       go_roundg k1
       case measure => have := HK1.out; omega
       case rel => exact ⟨(wrap64 (x8_1 + 1)), (t172), (t173), (t174), (t175), (t176), (t177), (t178), (t179), (by first | rfl | (simp; done) | (simp [*]; done)), H', ⟨by have := HK1.out; omega⟩, ⟨by (iterate 8 (refine blk_far ?_ NB160_161.out _)); (with_reducible repeat (first | refine blk_drewN ?_ _ | refine blk_drew ?_ | refine blk_alloc ?_ _)); exact BK160.out⟩, ⟨by refine blk_put (cs := #[.bool t172, .bool t173, .bool t174, .int .i64 t175, .string t176, .bool t177, .int .i64 t178, .string x162007_1]) ?_ 7 _ rfl; refine blk_put (cs := #[.bool t172, .bool t173, .bool t174, .int .i64 t175, .string t176, .bool t177, .int .i64 x162006_1, .string x162007_1]) ?_ 6 _ rfl; refine blk_put (cs := #[.bool t172, .bool t173, .bool t174, .int .i64 t175, .string t176, .bool x162005_1, .int .i64 x162006_1, .string x162007_1]) ?_ 5 _ rfl; refine blk_put (cs := #[.bool t172, .bool t173, .bool t174, .int .i64 t175, .string x162004_1, .bool x162005_1, .int .i64 x162006_1, .string x162007_1]) ?_ 4 _ rfl; refine blk_put (cs := #[.bool t172, .bool t173, .bool t174, .int .i64 x162003_1, .string x162004_1, .bool x162005_1, .int .i64 x162006_1, .string x162007_1]) ?_ 3 _ rfl; refine blk_put (cs := #[.bool t172, .bool t173, .bool x162002_1, .int .i64 x162003_1, .string x162004_1, .bool x162005_1, .int .i64 x162006_1, .string x162007_1]) ?_ 2 _ rfl; refine blk_put (cs := #[.bool t172, .bool x162001_1, .bool x162002_1, .int .i64 x162003_1, .string x162004_1, .bool x162005_1, .int .i64 x162006_1, .string x162007_1]) ?_ 1 _ rfl; refine blk_put (cs := #[.bool x162000_1, .bool x162001_1, .bool x162002_1, .int .i64 x162003_1, .string x162004_1, .bool x162005_1, .int .i64 x162006_1, .string x162007_1]) ?_ 0 _ rfl; (with_reducible repeat (first | refine blk_drewN ?_ _ | refine blk_drew ?_ | refine blk_alloc ?_ _)); exact BK161.out⟩, ⟨by repeat (first | (with_reducible first | exact HB.out | apply below_alloc | apply pw_below_drewN | apply below_drew1 | refine below_set ?_ GE160.out | refine below_set ?_ GE161.out | refine below_set ?_ GE163.out) | exact HB.out)⟩⟩
     ·rw [if_neg c6] at H
      exact absurd H (by simp)
    ·rw [if_neg c5] at H
     exact absurd H (by simp)
   ·rw [if_neg c4] at H
    have c4b0 : decide (x8_1 < (l0.length : Int)) = false := decide_eq_false c4
    clear c4
    simp only [Option.some.injEq, Prod.mk.injEq] at H
    obtain ⟨rfl, rfl, rfl, rfl, rfl, rfl, rfl, rfl⟩ := H
    have hnb33 := NB161_160.out
    have hnc33 := NB160_161.out
    obtain ⟨hcz34_0, hcz34_1, hcz34_2, hcz34_3, hcz34_4, hcz34_5, hcz34_6, hcz34_7⟩ := bc8 BK161.out
    obtain ⟨hfz34_0, hfz34_1, hfz34_2, hfz34_3, hfz34_4, hfz34_5, hfz34_6, hfz34_7⟩ := bf8 BK161.out
    obtain ⟨hcz35_0, hcz35_1, hcz35_2, hcz35_3, hcz35_4, hcz35_5, hcz35_6, hcz35_7⟩ := bc8 BK160.out
    obtain ⟨hfz35_0, hfz35_1, hfz35_2, hfz35_3, hfz35_4, hfz35_5, hfz35_6, hfz35_7⟩ := bf8 BK160.out
    go_wp2
    refine bodyPost_ret (results_cell_row rfl _ _ gb160 41 #[.bool x162000_1, .bool x162001_1, .bool x162002_1, .int .i64 x162003_1, .string x162004_1, .bool x162005_1, .int .i64 x162006_1, .string x162007_1] (0, 0) _ rfl (by refine blk_put (cs := #[.bool x162000_1, .bool x162001_1, .bool x162002_1, .int .i64 x162003_1, .string x162004_1, .bool x162005_1, .int .i64 x162006_1, .string (⟨#[]⟩ : ByteArray)]) ?_ 7 _ rfl; refine blk_put (cs := #[.bool x162000_1, .bool x162001_1, .bool x162002_1, .int .i64 x162003_1, .string x162004_1, .bool x162005_1, .int .i64 0, .string (⟨#[]⟩ : ByteArray)]) ?_ 6 _ rfl; refine blk_put (cs := #[.bool x162000_1, .bool x162001_1, .bool x162002_1, .int .i64 x162003_1, .string x162004_1, .bool false, .int .i64 0, .string (⟨#[]⟩ : ByteArray)]) ?_ 5 _ rfl; refine blk_put (cs := #[.bool x162000_1, .bool x162001_1, .bool x162002_1, .int .i64 x162003_1, .string (⟨#[]⟩ : ByteArray), .bool false, .int .i64 0, .string (⟨#[]⟩ : ByteArray)]) ?_ 4 _ rfl; refine blk_put (cs := #[.bool x162000_1, .bool x162001_1, .bool x162002_1, .int .i64 0, .string (⟨#[]⟩ : ByteArray), .bool false, .int .i64 0, .string (⟨#[]⟩ : ByteArray)]) ?_ 3 _ rfl; refine blk_put (cs := #[.bool x162000_1, .bool x162001_1, .bool false, .int .i64 0, .string (⟨#[]⟩ : ByteArray), .bool false, .int .i64 0, .string (⟨#[]⟩ : ByteArray)]) ?_ 2 _ rfl; refine blk_put (cs := #[.bool x162000_1, .bool false, .bool false, .int .i64 0, .string (⟨#[]⟩ : ByteArray), .bool false, .int .i64 0, .string (⟨#[]⟩ : ByteArray)]) ?_ 1 _ rfl; refine blk_put (cs := #[.bool false, .bool false, .bool false, .int .i64 0, .string (⟨#[]⟩ : ByteArray), .bool false, .int .i64 0, .string (⟨#[]⟩ : ByteArray)]) ?_ 0 _ rfl; (with_reducible repeat (first | refine blk_drewN ?_ _ | refine blk_drew ?_ | refine blk_alloc ?_ _)); exact BK160.out) Try.underlying41 rfl (by kernel_rfl)) rfl ?_
    exact ⟨by first | rfl | (simp [errW_none, errW_some] <;> rfl) | (simp [*, errW_none, errW_some] <;> rfl), by repeat (first | (with_reducible first | exact HB.out | apply below_alloc | apply pw_below_drewN | apply below_drew1 | refine below_set ?_ GE160.out | refine below_set ?_ GE161.out) | exact HB.out)⟩
/-! ### zone_Of_c: function 22 -/
def addZ (z : Zn) (v : S27) : Zn := if v.f0 = true then ⟨true, z.va, z.lo, z.hi⟩ else joinZ z (spanV v v)
def ofZ (l : List S27) : Zn := l.foldl addZ zeroZ
theorem rdVz_at (l : List S27) (n : Nat) (h : n < l.length) : rd_T27 l (n : Int) = l[n] := by
  simp [rd_T27, List.getD_eq_getElem?_getD, List.getElem?_eq_getElem h]
theorem zone_Of.tells (l : List S27) (hl : l.length ≤ 9223372036854775807) : ∀ (d k n : Nat) (z : Zn), n + d = l.length → d < k →
    zone_Of.l0 k l (l.length : Int) (n : Int) z.nu z.va z.lo.f0 z.lo.f1 z.lo.f2 z.hi.f0 z.hi.f1 z.hi.f2 = some ((l.drop n).foldl addZ z).tup := by
  intro d
  induction d with
  | zero =>
    intro k n z hn hk
    obtain ⟨k, rfl⟩ : ∃ m, k = m + 1 := ⟨k - 1, by omega⟩
    rw [zone_Of.l0, if_neg (by omega), List.drop_eq_nil_of_le (by omega)]
    rfl
  | succ d ih =>
    intro k n z hn hk
    obtain ⟨k, rfl⟩ : ∃ m, k = m + 1 := ⟨k - 1, by omega⟩
    have hlt : n < l.length := by omega
    have hw : wrap64 ((n : Int) + 1) = ((n + 1 : Nat) : Int) := by unfold wrap64; omega
    rw [zone_Of.l0, if_pos (by omega), if_pos (by omega), if_pos (by omega), hw, rdVz_at l n hlt, List.drop_eq_getElem_cons hlt, List.foldl_cons]
    have := ih k (n + 1) (addZ z l[n]) (by omega) (by omega)
    by_cases hv : l[n].f0 = true
    · rw [if_pos hv]
      rw [show addZ z l[n] = ⟨true, z.va, z.lo, z.hi⟩ from if_pos hv] at this ⊢
      exact this
    · rw [if_neg hv]
      rw [show addZ z l[n] = joinZ z (spanV l[n] l[n]) from if_neg hv] at this ⊢
      simp only [zone_span_c.f, zone_Join_c.f, Option.bind_some, Zn.tup]
      exact this
def zone_Of_c.f (l : List S27) : Option (Bool × Bool × Bool × Int × ByteArray × Bool × Int × ByteArray) := some (ofZ l).tup
theorem zone_Of_c.calls (A0 : Option Addr) (c0 : Nat) (l0 : List (S27)) (r1 : Bool) (r2 : Bool) (r3 : Bool) (r4 : Int) (r5 : ByteArray) (r6 : Bool) (r7 : Int) (r8 : ByteArray) (w : World) (hr0 : Kd.C k27 w A0 l0.length l0) (hc0 : l0.length ≤ c0) (h : zone_Of_c.f l0 = some (r1, r2, r3, r4, r5, r6, r7, r8)) :
    Calls Try.prog 22 #[.slice A0 l0.length c0] w fun e w' => e = .returned (.agg #[.bool r1, .bool r2, .bool r3, .int .i64 r4, .string r5, .bool r6, .int .i64 r7, .string r8]) ∧ Below w.heap.size w w' := by
  refine zone_Of.calls (l0.length + 1) A0 c0 l0 r1 r2 r3 r4 r5 r6 r7 r8 w hr0 hc0 (Eq.trans ?_ h)
  have := zone_Of.tells l0 hr0.2.1 l0.length (l0.length + 1) 0 zeroZ (by omega) (by omega)
  rw [List.drop_zero] at this
  exact this


end Go.Proofs.Ytnfliommpdjlkaa.Pr
