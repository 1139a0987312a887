-- printed by xprint.py
import Derived.Test.YthlelhndmnkmjaaPr0
import Derived.Test.YthlelhndmnkmjaaPrf80
namespace Go.Proofs.Ythlelhndmnkmjaa.Pr
open Go.RowKit Go.Proofs.YthlelhndmnkmjaaW PrintWords PrintLast PrintMore
set_option linter.unusedVariables false
set_option linter.unusedSimpArgs false

/-! ### tithebarnref18_Fold: function 58 -/
mutual
def tithebarnref18_Fold.l0 : Nat → List (List (S37)) → Int → Int → Int → Int → Int → Bool → Int → ByteArray → Bool → Int → ByteArray → Option (Int × Int × Int × Bool × Int × ByteArray × Bool × Int × ByteArray × Int)
 | 0, _, _, _, _, _, _, _, _, _, _, _, _ => none
 | k + 1, x0, x1, x7, x253000, x253001, x253002, x253003, x253004, x253005, x253006, x253007, x253008 => if x7 < (x0.length : Int) then (if x1 < 0 then (tithebarnref18_Fold.j1 k x0 x1 x7 true x253000 x253001 x253002 x253003 x253004 x253005 x253006 x253007 x253008) else (if 0 ≤ x7 then (tithebarnref18_Fold.j1 k x0 x1 x7 (decide (x1 ≥ ((rd_L7 x0 x7).length : Int))) x253000 x253001 x253002 x253003 x253004 x253005 x253006 x253007 x253008) else (none))) else (some (x253000, x253001, x253002, x253003, x253004, x253005, x253006, x253007, x253008, 0))
def tithebarnref18_Fold.j1 : Nat → List (List (S37)) → Int → Int → Bool → Int → Int → Int → Bool → Int → ByteArray → Bool → Int → ByteArray → Option (Int × Int × Int × Bool × Int × ByteArray × Bool × Int × ByteArray × Int)
 | 0, _, _, _, _, _, _, _, _, _, _, _, _, _ => none
 | k + 1, x0, x1, x7, x24, x253000, x253001, x253002, x253003, x253004, x253005, x253006, x253007, x253008 => if x24 = true then (some (0, 0, 0, false, 0, (⟨#[]⟩ : ByteArray), false, 0, (⟨#[]⟩ : ByteArray), 7)) else (if 0 ≤ x7 then (if x7 < (x0.length : Int) then (if 0 ≤ x1 then (if x1 < ((rd_L7 x0 x7).length : Int) then (if ((rd_T37 (rd_L7 x0 x7) x1).f0 = true) then (tithebarnref18_Fold.l0 k x0 x1 (wrap64 (x7 + 1)) (wrap64 (x253000 + 1)) x253001 x253002 x253003 x253004 x253005 x253006 x253007 x253008) else ((tithebarnref18_add.f k (wrap64 (x253000 + 1)) x253001 x253002 x253003 x253004 x253005 x253006 x253007 x253008 ((rd_T37 (rd_L7 x0 x7) x1).f0) ((rd_T37 (rd_L7 x0 x7) x1).f1) ((rd_T37 (rd_L7 x0 x7) x1).f2)).bind fun bt258 => (tithebarnref18_Fold.l0 k x0 x1 (wrap64 (x7 + 1)) bt258.1 bt258.2.1 bt258.2.2.1 bt258.2.2.2.1 bt258.2.2.2.2.1 bt258.2.2.2.2.2.1 bt258.2.2.2.2.2.2.1 bt258.2.2.2.2.2.2.2.1 bt258.2.2.2.2.2.2.2.2))) else (none)) else (none)) else (none)) else (none))
end
def tithebarnref18_Fold.f (k : Nat) (l0 : List (List (S37))) (a1 : Int) : Option (Int × Int × Int × Bool × Int × ByteArray × Bool × Int × ByteArray × Int) := tithebarnref18_Fold.l0 k l0 a1 0 0 0 0 false 0 (⟨#[]⟩ : ByteArray) false 0 (⟨#[]⟩ : ByteArray)
theorem tithebarnref18_Fold.mono_l : ∀ k, (∀ y0 y1 y2 y3 y4 y5 y6 y7 y8 y9 y10 y11, LeO (tithebarnref18_Fold.l0 k y0 y1 y2 y3 y4 y5 y6 y7 y8 y9 y10 y11) (tithebarnref18_Fold.l0 (k + 1) y0 y1 y2 y3 y4 y5 y6 y7 y8 y9 y10 y11)) ∧ (∀ y0 y1 y2 y3 y4 y5 y6 y7 y8 y9 y10 y11 y12, LeO (tithebarnref18_Fold.j1 k y0 y1 y2 y3 y4 y5 y6 y7 y8 y9 y10 y11 y12) (tithebarnref18_Fold.j1 (k + 1) y0 y1 y2 y3 y4 y5 y6 y7 y8 y9 y10 y11 y12))
 | 0 => ⟨fun _ _ _ _ _ _ _ _ _ _ _ _ r h => by simp [tithebarnref18_Fold.l0] at h, fun _ _ _ _ _ _ _ _ _ _ _ _ _ r h => by simp [tithebarnref18_Fold.j1] at h⟩
 | k + 1 => by
  obtain ⟨ih0, ih1⟩ := tithebarnref18_Fold.mono_l k
  refine ⟨?_, ?_⟩
  ·intro y0 y1 y2 y3 y4 y5 y6 y7 y8 y9 y10 y11
   unfold tithebarnref18_Fold.l0
   repeat' first
   | (with_reducible exact ih0 _ _ _ _ _ _ _ _ _ _ _ _)
   | (with_reducible exact ih1 _ _ _ _ _ _ _ _ _ _ _ _ _)
   | (with_reducible exact tithebarnref18_add.mono _ _ _ _ _ _ _ _ _ _ _ _ _)
   | (with_reducible exact LeO.refl _)
   | (with_reducible exact LeO.none _)
   | (with_reducible refine LeO.ite ?_ ?_)
   | (with_reducible refine LeO.bind ?_ (fun _ => ?_))
  ·intro y0 y1 y2 y3 y4 y5 y6 y7 y8 y9 y10 y11 y12
   unfold tithebarnref18_Fold.j1
   repeat' first
   | (with_reducible exact ih0 _ _ _ _ _ _ _ _ _ _ _ _)
   | (with_reducible exact ih1 _ _ _ _ _ _ _ _ _ _ _ _ _)
   | (with_reducible exact tithebarnref18_add.mono _ _ _ _ _ _ _ _ _ _ _ _ _)
   | (with_reducible exact LeO.refl _)
   | (with_reducible exact LeO.none _)
   | (with_reducible refine LeO.ite ?_ ?_)
   | (with_reducible refine LeO.bind ?_ (fun _ => ?_))
theorem tithebarnref18_Fold.mono : ∀ a0 a1 k, LeO (tithebarnref18_Fold.f k a0 a1) (tithebarnref18_Fold.f (k + 1) a0 a1) := by
 intro a0 a1 k
 obtain ⟨ih0, ih1⟩ := tithebarnref18_Fold.mono_l k
 unfold tithebarnref18_Fold.f
 repeat' first
   | (with_reducible exact ih0 _ _ _ _ _ _ _ _ _ _ _ _)
   | (with_reducible exact ih1 _ _ _ _ _ _ _ _ _ _ _ _ _)
   | (with_reducible exact tithebarnref18_add.mono _ _ _ _ _ _ _ _ _ _ _ _ _)
   | (with_reducible exact LeO.refl _)
   | (with_reducible exact LeO.none _)
   | (with_reducible refine LeO.ite ?_ ?_)
   | (with_reducible refine LeO.bind ?_ (fun _ => ?_))
def tithebarnref18_Fold.T9 : Bool × List (List Nat × List Nat) := (true, [([], []), ([], []), ([], []), ([1, 2], [1, 2]), ([3], [3]), ([], []), ([4, 5], [4, 5]), ([6], [6]), ([0, 7], [0, 7]), ([8, 8, 0, 1, 2, 3, 4, 5, 6, 7, 8], [8])])
def tithebarnref18_Fold.B9 : List Nat := [0, 0, 0, 6, 14, 0, 62, 126, 255, 511]
theorem tithebarnref18_Fold.tab9 : rtab .any (opsOf Try.f58 9) = tithebarnref18_Fold.T9 := by kernel_rfl
theorem tithebarnref18_Fold.bits9 : waitsOk tithebarnref18_Fold.T9.2 tithebarnref18_Fold.B9 = true := by kernel_rfl
set_option maxHeartbeats 8000000 in
set_option maxRecDepth 100000 in
theorem tithebarnref18_Fold.calls (k : Nat) (A0 : Option Addr) (c0 : Nat) (l0 : List (List (S37))) (a1 : Int) (r1 : Int) (r2 : Int) (r3 : Int) (r4 : Bool) (r5 : Int) (r6 : ByteArray) (r7 : Bool) (r8 : Int) (r9 : ByteArray) (r10 : Int) (w : World) (hr0 : Kd.C (Kd.slice 37 k37) w A0 l0.length l0) (hc0 : l0.length ≤ c0) (h : tithebarnref18_Fold.f k l0 a1 = some (r1, r2, r3, r4, r5, r6, r7, r8, r9, r10)) :
  Calls Try.prog 58 #[.slice A0 l0.length c0, .int .i64 a1] w fun e w' => e = .returned (.tuple #[.agg #[.int .i64 r1, .int .i64 r2, .int .i64 r3, .bool r4, .int .i64 r5, .string r6, .bool r7, .int .i64 r8, .string r9], .int .i64 r10]) ∧ Below w.heap.size w w' := by
 have hu47 := Try.underlying47
 have hu37 := Try.underlying37
 have HR0 := Aside0.mk hr0
 have HC0 := Aside0.mk hc0
 clear hr0 hc0
 have HB := Aside0.mk (Below.refl w.heap.size w)
 have H : (tithebarnref18_Fold.l0 k l0 a1 0 0 0 0 false 0 (⟨#[]⟩ : ByteArray) false 0 (⟨#[]⟩ : ByteArray)) = some (r1, r2, r3, r4, r5, r6, r7, r8, r9, r10) := h
 clear h
 have H' := Aside0.mk H
 clear H
 go_enter Try.func58, Try.ntmps58
 go_wp2_with (first | ((with_reducible refine gate_dst (N := 4) rfl ?_); (try (refine gate_guard (by rfl) ?_; dsimp only)); refine box_event ?hg (N := 4) ?hd (cs := #[.int .i64 0, .int .i64 0, .int .i64 0, .bool false, .int .i64 0, .string (⟨#[]⟩ : ByteArray), .bool false, .int .i64 0, .string (⟨#[]⟩ : ByteArray)]) (t := 47) ?hr ?_; (case hd => rfl); (case hg => rfl); (case hr => first | (go_simp; done) | (go_simp; rfl)); intro gb251 hg w3 hbox hb; have n0_ := Aside0.mk (below_step (by with_reducible repeat first | exact HB.out | apply below_alloc | apply pw_below_drewN | apply below_drew1) hb); have n1_ := Aside0.mk (hbox); have n2_ := Aside0.mk ((by rw [hg]; exact (below_size (by with_reducible repeat first | exact HB.out | apply below_alloc | apply pw_below_drewN | apply below_drew1)) : w.heap.size ≤ gb251)); have n3_ := Aside0.mk ((by rw [hg]; exact (below_size (by with_reducible repeat first | exact HB.out | apply below_alloc | apply pw_below_drewN | apply below_drew1)) : w.heap.size ≤ gb251)); clear HB; have HB := n0_; have BK251 := n1_; have GW251 := n2_; have GE251 := n3_; clear n0_ n1_ n2_ n3_; clear hb hbox hg) | ((with_reducible refine gate_dst (N := 6) rfl ?_); (try (refine gate_guard (by rfl) ?_; dsimp only)); refine box_event ?hg (N := 6) ?hd (cs := #[.int .i64 0, .int .i64 0, .int .i64 0, .bool false, .int .i64 0, .string (⟨#[]⟩ : ByteArray), .bool false, .int .i64 0, .string (⟨#[]⟩ : ByteArray)]) (t := 47) ?hr ?_; (case hd => rfl); (case hg => rfl); (case hr => first | (go_simp; done) | (go_simp; rfl)); intro gb252 hg w4 hbox hb; have n0_ := Aside0.mk (blk_below (g := gb251) (o := .cells #[.int .i64 0, .int .i64 0, .int .i64 0, .bool false, .int .i64 0, .string (⟨#[]⟩ : ByteArray), .bool false, .int .i64 0, .string (⟨#[]⟩ : ByteArray)] 47 (0, 0)) (by (with_reducible repeat (first | refine blk_drewN ?_ _ | refine blk_drew ?_ | refine blk_alloc ?_ _)); exact BK251.out) hb); have n1_ := Aside0.mk (below_step (by with_reducible repeat first | exact HB.out | apply below_alloc | apply pw_below_drewN | apply below_drew1 | refine below_set ?_ GE251.out) hb); have n2_ := Aside0.mk (hbox); have n3_ := Aside0.mk ((by rw [hg]; exact (below_size (by with_reducible repeat first | exact HB.out | apply below_alloc | apply pw_below_drewN | apply below_drew1 | refine below_set ?_ GE251.out)) : w.heap.size ≤ gb252)); have n4_ := Aside0.mk ((by rw [hg]; exact (below_size (by with_reducible repeat first | exact HB.out | apply below_alloc | apply pw_below_drewN | apply below_drew1 | refine below_set ?_ GE251.out)) : w.heap.size ≤ gb252)); have n5_ := Aside0.mk ((by rw [hg]; exact Nat.ne_of_lt (blk_lt (g := gb251) (o := .cells #[.int .i64 0, .int .i64 0, .int .i64 0, .bool false, .int .i64 0, .string (⟨#[]⟩ : ByteArray), .bool false, .int .i64 0, .string (⟨#[]⟩ : ByteArray)] 47 (0, 0)) (by (with_reducible repeat (first | refine blk_drewN ?_ _ | refine blk_drew ?_ | refine blk_alloc ?_ _)); exact BK251.out)) : gb251 ≠ gb252)); have n6_ := Aside0.mk ((by rw [hg]; exact Nat.ne_of_gt (blk_lt (g := gb251) (o := .cells #[.int .i64 0, .int .i64 0, .int .i64 0, .bool false, .int .i64 0, .string (⟨#[]⟩ : ByteArray), .bool false, .int .i64 0, .string (⟨#[]⟩ : ByteArray)] 47 (0, 0)) (by (with_reducible repeat (first | refine blk_drewN ?_ _ | refine blk_drew ?_ | refine blk_alloc ?_ _)); exact BK251.out)) : gb252 ≠ gb251)); clear BK251; clear HB; have BK251 := n0_; have HB := n1_; have BK252 := n2_; have GW252 := n3_; have GE252 := n4_; have NB251_252 := n5_; have NB252_251 := n6_; clear n0_ n1_ n2_ n3_ n4_ n5_ n6_; clear hb hbox hg))
 go_loopg [7] k (fun kq v7 w' => ∃ (x7_1 : Int) (x252000_1 : Int) (x252001_1 : Int) (x252002_1 : Int) (x252003_1 : Bool) (x252004_1 : Int) (x252005_1 : ByteArray) (x252006_1 : Bool) (x252007_1 : Int) (x252008_1 : ByteArray) (x253000_1 : Int) (x253001_1 : Int) (x253002_1 : Int) (x253003_1 : Bool) (x253004_1 : Int) (x253005_1 : ByteArray) (x253006_1 : Bool) (x253007_1 : Int) (x253008_1 : ByteArray), v7 = .int .i64 x7_1 ∧ Aside0 (tithebarnref18_Fold.l0 kq l0 a1 x7_1 x253000_1 x253001_1 x253002_1 x253003_1 x253004_1 x253005_1 x253006_1 x253007_1 x253008_1 = some (r1, r2, r3, r4, r5, r6, r7, r8, r9, r10)) ∧ Aside0 (kq ≤ k) ∧ Aside0 (w'.heap[gb251]? = some (.cells #[.int .i64 x252000_1, .int .i64 x252001_1, .int .i64 x252002_1, .bool x252003_1, .int .i64 x252004_1, .string x252005_1, .bool x252006_1, .int .i64 x252007_1, .string x252008_1] 47 (0, 0))) ∧ Aside0 (w'.heap[gb252]? = some (.cells #[.int .i64 x253000_1, .int .i64 x253001_1, .int .i64 x253002_1, .bool x253003_1, .int .i64 x253004_1, .string x253005_1, .bool x253006_1, .int .i64 x253007_1, .string x253008_1] 47 (0, 0))) ∧ Aside0 (Below w.heap.size w w'))
 case atStart => exact ⟨(0), (0), (0), (0), (false), (0), ((⟨#[]⟩ : ByteArray)), (false), (0), ((⟨#[]⟩ : ByteArray)), (0), (0), (0), (false), (0), ((⟨#[]⟩ : ByteArray)), (false), (0), ((⟨#[]⟩ : ByteArray)), (by first | rfl | (simp; done) | (simp [*]; done)), H', ⟨Nat.le_refl _⟩, ⟨by (with_reducible repeat (first | refine blk_drewN ?_ _ | refine blk_drew ?_ | refine blk_alloc ?_ _)); exact BK251.out⟩, ⟨by (with_reducible repeat (first | refine blk_drewN ?_ _ | refine blk_drew ?_ | refine blk_alloc ?_ _)); exact BK252.out⟩, ⟨by repeat (first | (with_reducible first | exact HB.out | apply below_alloc | apply pw_below_drewN | apply below_drew1 | refine below_set ?_ GE251.out | refine below_set ?_ GE252.out) | exact HB.out)⟩⟩
 case round =>
  clear H'
  try clear p2
  obtain ⟨x7_1, x252000_1, x252001_1, x252002_1, x252003_1, x252004_1, x252005_1, x252006_1, x252007_1, x252008_1, x253000_1, x253001_1, x253002_1, x253003_1, x253004_1, x253005_1, x253006_1, x253007_1, x253008_1, rfl, HA, HK1, BK251, BK252, HB⟩ := hrel
  cases gk with
  | zero => exact absurd HA.out (by simp [tithebarnref18_Fold.l0])
  | succ k1 =>
   have H := HA.out
   clear HA
   simp only [tithebarnref18_Fold.l0] at H
   by_cases c5 : x7_1 < (l0.length : Int)
   ·rw [if_pos c5] at H
    have c5b0 : decide (x7_1 < (l0.length : Int)) = true := decide_eq_true c5
    clear c5
    have HC6 := Aside0.mk H
    clear H
    go_upto_region 5 with (fail)
    go_cut [24] (fun v24 wc => ∃ (kq : Nat) (x24_5 : Bool), v24 = .bool x24_5 ∧ Aside0 (tithebarnref18_Fold.j1 kq l0 a1 x7_1 x24_5 x253000_1 x253001_1 x253002_1 x253003_1 x253004_1 x253005_1 x253006_1 x253007_1 x253008_1 = some (r1, r2, r3, r4, r5, r6, r7, r8, r9, r10)) ∧ Aside0 (kq ≤ k1) ∧ Aside0 (wc.heap[gb251]? = some (.cells #[.int .i64 x252000_1, .int .i64 x252001_1, .int .i64 x252002_1, .bool x252003_1, .int .i64 x252004_1, .string x252005_1, .bool x252006_1, .int .i64 x252007_1, .string x252008_1] 47 (0, 0))) ∧ Aside0 (wc.heap[gb252]? = some (.cells #[.int .i64 x253000_1, .int .i64 x253001_1, .int .i64 x253002_1, .bool x253003_1, .int .i64 x253004_1, .string x253005_1, .bool x253006_1, .int .i64 x253007_1, .string x253008_1] 47 (0, 0))) ∧ Aside0 (Below w.heap.size w wc))
    case first =>
     have H := HC6.out
     clear HC6
     by_cases c7 : a1 < 0
     ·rw [if_pos c7] at H
      have c7b0 : decide (a1 < 0) = true := decide_eq_true c7
      clear c7
      (first | rw [c7b0] | (simp only [i64_w, i32_w]; rw [c7b0]) | skip)
      have H' := Aside0.mk H
      clear H
      go_wp2
      go_meet
      case rel => exact ⟨_, (true), (by first | rfl | (simp; done) | (simp [*]; done)), H', ⟨by have := HK1.out; first | omega | exact Nat.le_refl _⟩, ⟨by (with_reducible repeat (first | refine blk_drewN ?_ _ | refine blk_drew ?_ | refine blk_alloc ?_ _)); exact BK251.out⟩, ⟨by (with_reducible repeat (first | refine blk_drewN ?_ _ | refine blk_drew ?_ | refine blk_alloc ?_ _)); exact BK252.out⟩, ⟨by repeat (first | (with_reducible first | exact HB.out | apply below_alloc | apply pw_below_drewN | apply below_drew1 | refine below_set ?_ GE251.out | refine below_set ?_ GE252.out) | exact HB.out)⟩⟩
     ·rw [if_neg c7] at H
      have c7b0 : decide (a1 < 0) = false := decide_eq_false c7
      clear c7
      (first | rw [c7b0] | (simp only [i64_w, i32_w]; rw [c7b0]) | skip)
      by_cases c8 : 0 ≤ x7_1
      ·rw [if_pos c8] at H
       have c8b0 : decide (0 ≤ x7_1) = true := decide_eq_true c8
       clear c8
       have H' := Aside0.mk H
       clear H
       have p253 : 0 ≤ (x7_1 : Int) := of_decide_eq_true (by with_reducible assumption)
       have q253 : x7_1 < (l0.length : Int) := of_decide_eq_true (by with_reducible assumption)
       obtain ⟨ad253, A253_0, c253_0, e253, hx253_0, hl253_0, hi253_0⟩ := at_L7 HR0.out x7_1 p253 q253
       cases e253
       replace hx253_0 := pw_cell_below HB.out hx253_0
       have HR253_0 := Aside0.mk hi253_0
       have HC253_0 := Aside0.mk hl253_0
       clear hi253_0 hl253_0
       replace p253 := eq_true p253
       replace q253 := eq_true q253
       go_wp2
       go_meet
       case rel => exact ⟨_, (decide (a1 ≥ ((rd_L7 l0 x7_1).length : Int))), (by first | rfl | (simp; done) | (simp [*]; done)), H', ⟨by have := HK1.out; first | omega | exact Nat.le_refl _⟩, ⟨by (with_reducible repeat (first | refine blk_drewN ?_ _ | refine blk_drew ?_ | refine blk_alloc ?_ _)); exact BK251.out⟩, ⟨by (with_reducible repeat (first | refine blk_drewN ?_ _ | refine blk_drew ?_ | refine blk_alloc ?_ _)); exact BK252.out⟩, ⟨by repeat (first | (with_reducible first | exact HB.out | apply below_alloc | apply pw_below_drewN | apply below_drew1 | refine below_set ?_ GE251.out | refine below_set ?_ GE252.out) | exact HB.out)⟩⟩
      ·rw [if_neg c8] at H
       exact absurd H (by simp)
    case rest =>
     clear HC6
     try clear c2
     try clear p2
     try clear q2
     try clear hx2
     try clear c5
     try clear c5b0
     try clear c7
     try clear c7b0
     try clear c8
     try clear c8b0
     try clear hx253_0
     try clear p2
     try clear p253
     try clear q253
     obtain ⟨kq, x24_5, rfl, HA, HJ5, BK251, BK252, HB⟩ := hcut
     cases kq with
     | zero => exact absurd HA.out (by simp [tithebarnref18_Fold.j1])
     | succ kj5 =>
      have H := HA.out
      clear HA
      simp only [tithebarnref18_Fold.j1] at H
      by_cases c9 : x24_5 = true
      ·subst c9
       have H1 : (some (0, 0, 0, false, 0, (⟨#[]⟩ : ByteArray), false, 0, (⟨#[]⟩ : ByteArray), 7)) = some (r1, r2, r3, r4, r5, r6, r7, r8, r9, r10) := by rw [if_pos rfl] at H; exact H
       clear H
       have H := H1
       clear H1
       simp only [Option.some.injEq, Prod.mk.injEq] at H
       obtain ⟨rfl, rfl, rfl, rfl, rfl, rfl, rfl, rfl, rfl, rfl⟩ := H
       have hnb10 := NB251_252.out
       have hnc10 := NB252_251.out
       obtain ⟨hcz11_0, hcz11_1, hcz11_2, hcz11_3, hcz11_4, hcz11_5, hcz11_6, hcz11_7, hcz11_8⟩ := bc9 BK251.out
       obtain ⟨hfz11_0, hfz11_1, hfz11_2, hfz11_3, hfz11_4, hfz11_5, hfz11_6, hfz11_7, hfz11_8⟩ := bf9 BK251.out
       go_wp2
       refine bodyPost_ret (results_ct rfl _ _ gb251 47 #[.int .i64 0, .int .i64 0, .int .i64 0, .bool false, .int .i64 0, .string (⟨#[]⟩ : ByteArray), .bool false, .int .i64 0, .string (⟨#[]⟩ : ByteArray)] (0, 0) _ rfl (by refine blk_put (cs := #[.int .i64 0, .int .i64 0, .int .i64 0, .bool false, .int .i64 0, .string (⟨#[]⟩ : ByteArray), .bool false, .int .i64 0, .string x252008_1]) ?_ 8 _ rfl; refine blk_put (cs := #[.int .i64 0, .int .i64 0, .int .i64 0, .bool false, .int .i64 0, .string (⟨#[]⟩ : ByteArray), .bool false, .int .i64 x252007_1, .string x252008_1]) ?_ 7 _ rfl; refine blk_put (cs := #[.int .i64 0, .int .i64 0, .int .i64 0, .bool false, .int .i64 0, .string (⟨#[]⟩ : ByteArray), .bool x252006_1, .int .i64 x252007_1, .string x252008_1]) ?_ 6 _ rfl; refine blk_put (cs := #[.int .i64 0, .int .i64 0, .int .i64 0, .bool false, .int .i64 0, .string x252005_1, .bool x252006_1, .int .i64 x252007_1, .string x252008_1]) ?_ 5 _ rfl; refine blk_put (cs := #[.int .i64 0, .int .i64 0, .int .i64 0, .bool false, .int .i64 x252004_1, .string x252005_1, .bool x252006_1, .int .i64 x252007_1, .string x252008_1]) ?_ 4 _ rfl; refine blk_put (cs := #[.int .i64 0, .int .i64 0, .int .i64 0, .bool x252003_1, .int .i64 x252004_1, .string x252005_1, .bool x252006_1, .int .i64 x252007_1, .string x252008_1]) ?_ 3 _ rfl; refine blk_put (cs := #[.int .i64 0, .int .i64 0, .int .i64 x252002_1, .bool x252003_1, .int .i64 x252004_1, .string x252005_1, .bool x252006_1, .int .i64 x252007_1, .string x252008_1]) ?_ 2 _ rfl; refine blk_put (cs := #[.int .i64 0, .int .i64 x252001_1, .int .i64 x252002_1, .bool x252003_1, .int .i64 x252004_1, .string x252005_1, .bool x252006_1, .int .i64 x252007_1, .string x252008_1]) ?_ 1 _ rfl; refine blk_put (cs := #[.int .i64 x252000_1, .int .i64 x252001_1, .int .i64 x252002_1, .bool x252003_1, .int .i64 x252004_1, .string x252005_1, .bool x252006_1, .int .i64 x252007_1, .string x252008_1]) ?_ 0 _ rfl; (with_reducible repeat (first | refine blk_drewN ?_ _ | refine blk_drew ?_ | refine blk_alloc ?_ _)); exact BK251.out) Try.underlying47 rfl (by kernel_rfl)) rfl ?_
       exact ⟨by first | rfl | (simp [errW_none, errW_some] <;> rfl) | (simp [*, errW_none, errW_some] <;> rfl), by repeat (first | (with_reducible first | exact HB.out | apply below_alloc | apply pw_below_drewN | apply below_drew1 | refine below_set ?_ GE251.out | refine below_set ?_ GE252.out) | exact HB.out)⟩
      ·replace c9 := Bool.eq_false_iff.mpr c9
       subst c9
       have H1 : (if 0 ≤ x7_1 then (if x7_1 < (l0.length : Int) then (if 0 ≤ a1 then (if a1 < ((rd_L7 l0 x7_1).length : Int) then (if ((rd_T37 (rd_L7 l0 x7_1) a1).f0 = true) then (tithebarnref18_Fold.l0 kj5 l0 a1 (wrap64 (x7_1 + 1)) (wrap64 (x253000_1 + 1)) x253001_1 x253002_1 x253003_1 x253004_1 x253005_1 x253006_1 x253007_1 x253008_1) else ((tithebarnref18_add.f kj5 (wrap64 (x253000_1 + 1)) x253001_1 x253002_1 x253003_1 x253004_1 x253005_1 x253006_1 x253007_1 x253008_1 ((rd_T37 (rd_L7 l0 x7_1) a1).f0) ((rd_T37 (rd_L7 l0 x7_1) a1).f1) ((rd_T37 (rd_L7 l0 x7_1) a1).f2)).bind fun bt258 => (tithebarnref18_Fold.l0 kj5 l0 a1 (wrap64 (x7_1 + 1)) bt258.1 bt258.2.1 bt258.2.2.1 bt258.2.2.2.1 bt258.2.2.2.2.1 bt258.2.2.2.2.2.1 bt258.2.2.2.2.2.2.1 bt258.2.2.2.2.2.2.2.1 bt258.2.2.2.2.2.2.2.2))) else (none)) else (none)) else (none)) else (none)) = some (r1, r2, r3, r4, r5, r6, r7, r8, r9, r10) := by rw [if_neg (show ¬ (false = true) by decide)] at H; exact H
       clear H
       have H := H1
       clear H1
       by_cases c12 : 0 ≤ x7_1
       ·rw [if_pos c12] at H
        have c12b0 : decide (0 ≤ x7_1) = true := decide_eq_true c12
        clear c12
        by_cases c13 : x7_1 < (l0.length : Int)
        ·rw [if_pos c13] at H
         have c13b0 : decide (x7_1 < (l0.length : Int)) = true := decide_eq_true c13
         clear c13
         by_cases c14 : 0 ≤ a1
         ·rw [if_pos c14] at H
          have c14b0 : decide (0 ≤ a1) = true := decide_eq_true c14
          clear c14
          by_cases c15 : a1 < ((rd_L7 l0 x7_1).length : Int)
          ·rw [if_pos c15] at H
           have c15b0 : decide (a1 < ((rd_L7 l0 x7_1).length : Int)) = true := decide_eq_true c15
           clear c15
           obtain ⟨bq16, hbq16⟩ : ∃ b_ : Bool, b_ = ((rd_T37 (rd_L7 l0 x7_1) a1).f0) := ⟨_, rfl⟩
           replace H : (if (bq16 = true) then (tithebarnref18_Fold.l0 kj5 l0 a1 (wrap64 (x7_1 + 1)) (wrap64 (x253000_1 + 1)) x253001_1 x253002_1 x253003_1 x253004_1 x253005_1 x253006_1 x253007_1 x253008_1) else ((tithebarnref18_add.f kj5 (wrap64 (x253000_1 + 1)) x253001_1 x253002_1 x253003_1 x253004_1 x253005_1 x253006_1 x253007_1 x253008_1 (bq16) ((rd_T37 (rd_L7 l0 x7_1) a1).f1) ((rd_T37 (rd_L7 l0 x7_1) a1).f2)).bind fun bt258 => (tithebarnref18_Fold.l0 kj5 l0 a1 (wrap64 (x7_1 + 1)) bt258.1 bt258.2.1 bt258.2.2.1 bt258.2.2.2.1 bt258.2.2.2.2.1 bt258.2.2.2.2.2.1 bt258.2.2.2.2.2.2.1 bt258.2.2.2.2.2.2.2.1 bt258.2.2.2.2.2.2.2.2))) = some (r1, r2, r3, r4, r5, r6, r7, r8, r9, r10) := by rw [← hbq16] at H; exact H
           have Nbq16 := Aside0.mk hbq16
           clear hbq16
           by_cases c17 : (bq16 = true)
           ·subst c17
            have H1 : (tithebarnref18_Fold.l0 kj5 l0 a1 (wrap64 (x7_1 + 1)) (wrap64 (x253000_1 + 1)) x253001_1 x253002_1 x253003_1 x253004_1 x253005_1 x253006_1 x253007_1 x253008_1) = some (r1, r2, r3, r4, r5, r6, r7, r8, r9, r10) := by rw [if_pos rfl] at H; exact H
            clear H
            have H := H1
            clear H1
            have H' := Aside0.mk H
            clear H
            have hnb18 := NB252_251.out
            have hnc18 := NB251_252.out
            obtain ⟨hcz19_0, hcz19_1, hcz19_2, hcz19_3, hcz19_4, hcz19_5, hcz19_6, hcz19_7, hcz19_8⟩ := bc9 BK252.out
            obtain ⟨hfz19_0, hfz19_1, hfz19_2, hfz19_3, hfz19_4, hfz19_5, hfz19_6, hfz19_7, hfz19_8⟩ := bf9 BK252.out
            have p254 : 0 ≤ (x7_1 : Int) := of_decide_eq_true (by with_reducible assumption)
            have q254 : x7_1 < (l0.length : Int) := of_decide_eq_true (by with_reducible assumption)
            obtain ⟨ad254, A254_0, c254_0, e254, hx254_0, hl254_0, hi254_0⟩ := at_L7 HR0.out x7_1 p254 q254
            cases e254
            have hn254_0 : ad254.block ≠ gb252 := Nat.ne_of_lt (Nat.lt_of_lt_of_le (by have := World.block_lt_of_cell? _ _ hx254_0; first | rwa [add_block] at this | exact this) GW252.out)
            replace hx254_0 := pw_cell_below HB.out hx254_0
            have HR254_0 := Aside0.mk hi254_0
            have HC254_0 := Aside0.mk hl254_0
            clear hi254_0 hl254_0
            replace hx254_0 := (cell_far (p := ⟨gb252, 0, none⟩) (by first | (rw [add_block]; exact hn254_0) | (show (Addr.add _ _).block ≠ _; rw [add_block]; exact hn254_0) | exact hn254_0) (.int .i64 (wrap64 (x253000_1 + 1)))).trans hx254_0
            clear hn254_0
            replace p254 := eq_true p254
            replace q254 := eq_true q254
            have p255 : 0 ≤ (a1 : Int) := of_decide_eq_true (by with_reducible assumption)
            have q255 : a1 < ((rd_L7 l0 x7_1).length : Int) := of_decide_eq_true (by with_reducible assumption)
            obtain ⟨ad255, e255, hx255_0, hx255_1, hx255_2⟩ := at_T37 HR254_0.out a1 p255 q255
            (try rw [← Nbq16.out] at hx255_0)
            cases e255
            have hn255_0 : ad255.block ≠ gb252 := Nat.ne_of_lt (Nat.lt_of_lt_of_le (by have := World.block_lt_of_cell? _ _ hx255_0; first | rwa [add_block] at this | exact this) GW252.out)
            replace hx255_0 := pw_cell_below HB.out hx255_0
            replace hx255_1 := pw_cell_below HB.out hx255_1
            replace hx255_2 := pw_cell_below HB.out hx255_2
            replace hx255_0 := (cell_far (p := ⟨gb252, 0, none⟩) (by first | (rw [add_block]; exact hn255_0) | (show (Addr.add _ _).block ≠ _; rw [add_block]; exact hn255_0) | exact hn255_0) (.int .i64 (wrap64 (x253000_1 + 1)))).trans hx255_0
            replace hx255_1 := (cell_far (p := ⟨gb252, 0, none⟩) (by first | (rw [add_block]; exact hn255_0) | (show (Addr.add _ _).block ≠ _; rw [add_block]; exact hn255_0) | exact hn255_0) (.int .i64 (wrap64 (x253000_1 + 1)))).trans hx255_1
            replace hx255_2 := (cell_far (p := ⟨gb252, 0, none⟩) (by first | (rw [add_block]; exact hn255_0) | (show (Addr.add _ _).block ≠ _; rw [add_block]; exact hn255_0) | exact hn255_0) (.int .i64 (wrap64 (x253000_1 + 1)))).trans hx255_2
            clear hn255_0
            replace p255 := eq_true p255
            replace q255 := eq_true q255
            go_wp2
            go_roundg kj5
            case measure => have := HK1.out; have := HJ5.out; omega
            case rel => exact ⟨(wrap64 (x7_1 + 1)), (x252000_1), (x252001_1), (x252002_1), (x252003_1), (x252004_1), (x252005_1), (x252006_1), (x252007_1), (x252008_1), (wrap64 (x253000_1 + 1)), (x253001_1), (x253002_1), (x253003_1), (x253004_1), (x253005_1), (x253006_1), (x253007_1), (x253008_1), (by first | rfl | (simp; done) | (simp [*]; done)), H', ⟨by have := HK1.out; have := HJ5.out; omega⟩, ⟨by refine blk_far ?_ NB251_252.out _; (with_reducible repeat (first | refine blk_drewN ?_ _ | refine blk_drew ?_ | refine blk_alloc ?_ _)); exact BK251.out⟩, ⟨by refine blk_put (cs := #[.int .i64 x253000_1, .int .i64 x253001_1, .int .i64 x253002_1, .bool x253003_1, .int .i64 x253004_1, .string x253005_1, .bool x253006_1, .int .i64 x253007_1, .string x253008_1]) ?_ 0 _ rfl; (with_reducible repeat (first | refine blk_drewN ?_ _ | refine blk_drew ?_ | refine blk_alloc ?_ _)); exact BK252.out⟩, ⟨by repeat (first | (with_reducible first | exact HB.out | apply below_alloc | apply pw_below_drewN | apply below_drew1 | refine below_set ?_ GE251.out | refine below_set ?_ GE252.out) | exact HB.out)⟩⟩
           ·replace c17 := Bool.eq_false_iff.mpr c17
            subst c17
            have H1 : ((tithebarnref18_add.f kj5 (wrap64 (x253000_1 + 1)) x253001_1 x253002_1 x253003_1 x253004_1 x253005_1 x253006_1 x253007_1 x253008_1 (false) ((rd_T37 (rd_L7 l0 x7_1) a1).f1) ((rd_T37 (rd_L7 l0 x7_1) a1).f2)).bind fun bt258 => (tithebarnref18_Fold.l0 kj5 l0 a1 (wrap64 (x7_1 + 1)) bt258.1 bt258.2.1 bt258.2.2.1 bt258.2.2.2.1 bt258.2.2.2.2.1 bt258.2.2.2.2.2.1 bt258.2.2.2.2.2.2.1 bt258.2.2.2.2.2.2.2.1 bt258.2.2.2.2.2.2.2.2)) = some (r1, r2, r3, r4, r5, r6, r7, r8, r9, r10) := by rw [if_neg (show ¬ (false = true) by decide)] at H; exact H
            clear H
            have H := H1
            clear H1
            replace H := Option.bind_eq_some_iff.mp H
            obtain ⟨⟨t258, t259, t260, t261, t262, t263, t264, t265, t266⟩, A200, H⟩ := H
            replace H : (tithebarnref18_Fold.l0 kj5 l0 a1 (wrap64 (x7_1 + 1)) t258 t259 t260 t261 t262 t263 t264 t265 t266) = some (r1, r2, r3, r4, r5, r6, r7, r8, r9, r10) := H
            have A20 := Aside0.mk A200
            clear A200
            have H' := Aside0.mk H
            clear H
            have hnb21 := NB252_251.out
            have hnc21 := NB251_252.out
            obtain ⟨hcz22_0, hcz22_1, hcz22_2, hcz22_3, hcz22_4, hcz22_5, hcz22_6, hcz22_7, hcz22_8⟩ := bc9 BK252.out
            obtain ⟨hfz22_0, hfz22_1, hfz22_2, hfz22_3, hfz22_4, hfz22_5, hfz22_6, hfz22_7, hfz22_8⟩ := bf9 BK252.out
            have p254 : 0 ≤ (x7_1 : Int) := of_decide_eq_true (by with_reducible assumption)
            have q254 : x7_1 < (l0.length : Int) := of_decide_eq_true (by with_reducible assumption)
            obtain ⟨ad254, A254_0, c254_0, e254, hx254_0, hl254_0, hi254_0⟩ := at_L7 HR0.out x7_1 p254 q254
            cases e254
            have hn254_0 : ad254.block ≠ gb252 := Nat.ne_of_lt (Nat.lt_of_lt_of_le (by have := World.block_lt_of_cell? _ _ hx254_0; first | rwa [add_block] at this | exact this) GW252.out)
            replace hx254_0 := pw_cell_below HB.out hx254_0
            have HR254_0 := Aside0.mk hi254_0
            have HC254_0 := Aside0.mk hl254_0
            clear hi254_0 hl254_0
            replace hx254_0 := (cell_far (p := ⟨gb252, 0, none⟩) (by first | (rw [add_block]; exact hn254_0) | (show (Addr.add _ _).block ≠ _; rw [add_block]; exact hn254_0) | exact hn254_0) (.int .i64 (wrap64 (x253000_1 + 1)))).trans hx254_0
            clear hn254_0
            replace p254 := eq_true p254
            replace q254 := eq_true q254
            have p255 : 0 ≤ (a1 : Int) := of_decide_eq_true (by with_reducible assumption)
            have q255 : a1 < ((rd_L7 l0 x7_1).length : Int) := of_decide_eq_true (by with_reducible assumption)
            obtain ⟨ad255, e255, hx255_0, hx255_1, hx255_2⟩ := at_T37 HR254_0.out a1 p255 q255
            (try rw [← Nbq16.out] at hx255_0)
            cases e255
            have hn255_0 : ad255.block ≠ gb252 := Nat.ne_of_lt (Nat.lt_of_lt_of_le (by have := World.block_lt_of_cell? _ _ hx255_0; first | rwa [add_block] at this | exact this) GW252.out)
            replace hx255_0 := pw_cell_below HB.out hx255_0
            replace hx255_1 := pw_cell_below HB.out hx255_1
            replace hx255_2 := pw_cell_below HB.out hx255_2
            replace hx255_0 := (cell_far (p := ⟨gb252, 0, none⟩) (by first | (rw [add_block]; exact hn255_0) | (show (Addr.add _ _).block ≠ _; rw [add_block]; exact hn255_0) | exact hn255_0) (.int .i64 (wrap64 (x253000_1 + 1)))).trans hx255_0
            replace hx255_1 := (cell_far (p := ⟨gb252, 0, none⟩) (by first | (rw [add_block]; exact hn255_0) | (show (Addr.add _ _).block ≠ _; rw [add_block]; exact hn255_0) | exact hn255_0) (.int .i64 (wrap64 (x253000_1 + 1)))).trans hx255_1
            replace hx255_2 := (cell_far (p := ⟨gb252, 0, none⟩) (by first | (rw [add_block]; exact hn255_0) | (show (Addr.add _ _).block ≠ _; rw [add_block]; exact hn255_0) | exact hn255_0) (.int .i64 (wrap64 (x253000_1 + 1)))).trans hx255_2
            clear hn255_0
            replace p255 := eq_true p255
            replace q255 := eq_true q255
            try go_wp2
            have n0_ : Aside0 ((wc.setCell ⟨gb252, 0, none⟩ (.int .i64 (wrap64 (x253000_1 + 1)))).heap[gb251]? = some (.cells #[.int .i64 x252000_1, .int .i64 x252001_1, .int .i64 x252002_1, .bool x252003_1, .int .i64 x252004_1, .string x252005_1, .bool x252006_1, .int .i64 x252007_1, .string x252008_1] 47 (0, 0))) := ⟨by refine blk_far ?_ NB251_252.out _; (with_reducible repeat (first | refine blk_drewN ?_ _ | refine blk_drew ?_ | refine blk_alloc ?_ _)); exact BK251.out⟩
            have n1_ : Aside0 ((wc.setCell ⟨gb252, 0, none⟩ (.int .i64 (wrap64 (x253000_1 + 1)))).heap[gb252]? = some (.cells #[.int .i64 (wrap64 (x253000_1 + 1)), .int .i64 x253001_1, .int .i64 x253002_1, .bool x253003_1, .int .i64 x253004_1, .string x253005_1, .bool x253006_1, .int .i64 x253007_1, .string x253008_1] 47 (0, 0))) := ⟨by refine blk_put (cs := #[.int .i64 x253000_1, .int .i64 x253001_1, .int .i64 x253002_1, .bool x253003_1, .int .i64 x253004_1, .string x253005_1, .bool x253006_1, .int .i64 x253007_1, .string x253008_1]) ?_ 0 _ rfl; (with_reducible repeat (first | refine blk_drewN ?_ _ | refine blk_drew ?_ | refine blk_alloc ?_ _)); exact BK252.out⟩
            have n2_ : Aside0 (Below w.heap.size w (wc.setCell ⟨gb252, 0, none⟩ (.int .i64 (wrap64 (x253000_1 + 1))))) := ⟨by repeat (first | (with_reducible first | exact HB.out | apply below_alloc | apply pw_below_drewN | apply below_drew1 | refine below_set ?_ GE251.out | refine below_set ?_ GE252.out) | exact HB.out)⟩
            (try clear BK251)
            (try clear BK252)
            (try clear HB)
            generalize (wc.setCell ⟨gb252, 0, none⟩ (.int .i64 (wrap64 (x253000_1 + 1)))) = w23 at n0_ n1_ n2_ ⊢
            have BK251 := n0_
            have BK252 := n1_
            have HB := n2_
            clear n0_ n1_ n2_
            have n0_ := Aside0.mk (blk_drew BK251.out)
            have n1_ := Aside0.mk (blk_drew BK252.out)
            have n2_ := Aside0.mk (below_drew1 HB.out)
            clear BK251
            clear BK252
            clear HB
            have BK251 := n0_
            have BK252 := n1_
            have HB := n2_
            clear n0_ n1_ n2_
            have p256 : 0 ≤ (x7_1 : Int) := of_decide_eq_true (by with_reducible assumption)
            have q256 : x7_1 < (l0.length : Int) := of_decide_eq_true (by with_reducible assumption)
            obtain ⟨ad256, A256_0, c256_0, e256, hx256_0, hl256_0, hi256_0⟩ := at_L7 HR0.out x7_1 p256 q256
            have hw256_0 := hx256_0
            (try rw [← Nbq16.out] at hw256_0)
            obtain rfl : ad254 = ad256 := (by injection e256)
            replace hx256_0 := pw_cell_below HB.out hx256_0
            have HR256_0 := Aside0.mk hi256_0
            have HC256_0 := Aside0.mk hl256_0
            clear hi256_0 hl256_0
            replace p256 := eq_true p256
            replace q256 := eq_true q256
            have p257 : 0 ≤ (a1 : Int) := of_decide_eq_true (by with_reducible assumption)
            have q257 : a1 < ((rd_L7 l0 x7_1).length : Int) := of_decide_eq_true (by with_reducible assumption)
            obtain ⟨ad257, e257, hx257_0, hx257_1, hx257_2⟩ := at_T37 HR256_0.out a1 p257 q257
            have hw257_2 := hx257_2
            (try rw [← Nbq16.out] at hw257_2)
            have hw257_1 := hx257_1
            (try rw [← Nbq16.out] at hw257_1)
            have hw257_0 := hx257_0
            (try rw [← Nbq16.out] at hw257_0)
            (try rw [← Nbq16.out] at hx257_0)
            cases e257
            replace hx257_0 := pw_cell_below HB.out hx257_0
            replace hx257_1 := pw_cell_below HB.out hx257_1
            replace hx257_2 := pw_cell_below HB.out hx257_2
            replace p257 := eq_true p257
            replace q257 := eq_true q257
            refine start_ (n := 10) (S := fun w' => w'.cell? ⟨gb252, 0, none⟩ = some (.int .i64 (wrap64 (x253000_1 + 1))) ∧ w'.cell? ⟨gb252, 1, none⟩ = some (.int .i64 x253001_1) ∧ w'.cell? ⟨gb252, 2, none⟩ = some (.int .i64 x253002_1) ∧ w'.cell? ⟨gb252, 3, none⟩ = some (.bool x253003_1) ∧ w'.cell? ⟨gb252, 4, none⟩ = some (.int .i64 x253004_1) ∧ w'.cell? ⟨gb252, 5, none⟩ = some (.string x253005_1) ∧ w'.cell? ⟨gb252, 6, none⟩ = some (.bool x253006_1) ∧ w'.cell? ⟨gb252, 7, none⟩ = some (.int .i64 x253007_1) ∧ w'.cell? ⟨gb252, 8, none⟩ = some (.string x253008_1) ∧ w'.cell? (ad254.add (x7_1).toNat) = some (.slice (some ad257) (rd_L7 l0 x7_1).length c256_0) ∧ w'.cell? (ad257.add ((a1).toNat * 3)) = some (.bool (false)) ∧ w'.cell? ⟨(ad257.add ((a1).toNat * 3)).block, (ad257.add ((a1).toNat * 3)).off + 1, none⟩ = some (.int .i64 ((rd_T37 (rd_L7 l0 x7_1) a1).f1)) ∧ w'.cell? ⟨(ad257.add ((a1).toNat * 3)).block, (ad257.add ((a1).toNat * 3)).off + 2, none⟩ = some (.string ((rd_T37 (rd_L7 l0 x7_1) a1).f2))) (ds := [9]) #[false, false, false, false, false, false, false, false, false, false] (by kernel_rfl) rfl rfl ⟨(blk_cell BK252.out 0).trans rfl, (blk_cell BK252.out 1).trans rfl, (blk_cell BK252.out 2).trans rfl, (blk_cell BK252.out 3).trans rfl, (blk_cell BK252.out 4).trans rfl, (blk_cell BK252.out 5).trans rfl, (blk_cell BK252.out 6).trans rfl, (blk_cell BK252.out 7).trans rfl, (blk_cell BK252.out 8).trans rfl, (pw_cell_below HB.out hw256_0), (pw_cell_below HB.out hw257_0), (pw_cell_below HB.out hw257_1), (pw_cell_below HB.out hw257_2)⟩ (fun hHeld => ?_); refine with_tabW tithebarnref18_Fold.tab9 tithebarnref18_Fold.bits9 (fun HT_ HW_ => ?_)
            generalize w23.drew = w24 at BK251 BK252 HB HR256_0 hx256_0 hx257_0 hx257_1 hx257_2 hHeld ⊢
            refine pure_ (i := 1) (N := some 40) (v := ?_) (a' := ?_) #[false, true, false, false, false, false, false, false, false, false] rfl rfl (any_of HT_.out (by kernel_rfl)) (fun _ _ _ h => h) (Or.inl ⟨by rfl, ?_⟩) ?_ ?_
            rotate_left
            ·intro w'
             go_simp
             with_reducible rfl
            rotate_left
            ·simp only [Act.put, List.setIfInBounds_toArray, List.set_cons_zero, List.set_cons_succ, i64_w, i32_w]
             rfl
            refine pure_ (i := 2) (N := some 41) (v := ?_) (a' := ?_) #[false, true, true, false, false, false, false, false, false, false] rfl rfl (any_of HT_.out (by kernel_rfl)) (fun _ _ _ h => h) (Or.inl ⟨by rfl, ?_⟩) ?_ ?_
            rotate_left
            ·intro w'
             go_simp
             with_reducible rfl
            rotate_left
            ·simp only [Act.put, List.setIfInBounds_toArray, List.set_cons_zero, List.set_cons_succ, i64_w, i32_w]
             rfl
            refine pure_ (i := 3) (N := some 42) (v := ?_) (a' := ?_) #[false, true, true, true, false, false, false, false, false, false] rfl rfl (any_of HT_.out (by kernel_rfl)) (fun _ _ _ h => h) (Or.inl ⟨by rfl, ?_⟩) ?_ ?_
            rotate_left
            ·intro w'
             go_simp
             with_reducible rfl
            rotate_left
            ·simp only [Act.put, List.setIfInBounds_toArray, List.set_cons_zero, List.set_cons_succ, i64_w, i32_w]
             rfl
            refine pure_ (i := 5) (N := some 44) (v := ?_) (a' := ?_) #[false, true, true, true, false, true, false, false, false, false] rfl rfl (any_of HT_.out (by kernel_rfl)) (fun _ _ _ h => h) (Or.inl ⟨by rfl, ?_⟩) ?_ ?_
            rotate_left
            ·intro w'
             go_simp
             with_reducible rfl
            rotate_left
            ·simp only [Act.put, List.setIfInBounds_toArray, List.set_cons_zero, List.set_cons_succ, i64_w, i32_w]
             rfl
            refine take_ (i := 0) (N := some 39) (v := ?_) (a' := ?_) #[true, true, true, true, false, true, false, false, false, false] rfl rfl (take_ofW HT_.out HW_.out (by kernel_rfl)) (fun _ _ _ h => h) (Or.inl ⟨by rfl, ?_⟩) hHeld ?_ ?_
            rotate_left
            ·rintro w' ⟨s0, s1, s2, s3, s4, s5, s6, s7, s8, s9, s10, s11, s12⟩
             go_simp
             with_reducible rfl
            rotate_left
            ·simp only [Act.put, List.setIfInBounds_toArray, List.set_cons_zero, List.set_cons_succ, i64_w, i32_w]
             rfl
            refine take_ (i := 4) (N := some 43) (v := ?_) (a' := ?_) #[true, true, true, true, true, true, false, false, false, false] rfl rfl (take_ofW HT_.out HW_.out (by kernel_rfl)) (fun _ _ _ h => h) (Or.inl ⟨by rfl, ?_⟩) hHeld ?_ ?_
            rotate_left
            ·rintro w' ⟨s0, s1, s2, s3, s4, s5, s6, s7, s8, s9, s10, s11, s12⟩
             go_simp
             with_reducible rfl
            rotate_left
            ·simp only [Act.put, List.setIfInBounds_toArray, List.set_cons_zero, List.set_cons_succ, i64_w, i32_w]
             rfl
            refine pure_ (i := 6) (N := some 45) (v := ?_) (a' := ?_) #[true, true, true, true, true, true, true, false, false, false] rfl rfl (any_of HT_.out (by kernel_rfl)) (fun _ _ _ h => h) (Or.inl ⟨by rfl, ?_⟩) ?_ ?_
            rotate_left
            ·intro w'
             go_simp
             with_reducible rfl
            rotate_left
            ·simp only [Act.put, List.setIfInBounds_toArray, List.set_cons_zero, List.set_cons_succ, i64_w, i32_w]
             rfl
            refine take_ (i := 7) (N := some 46) (v := ?_) (a' := ?_) #[true, true, true, true, true, true, true, true, false, false] rfl rfl (take_ofW HT_.out HW_.out (by kernel_rfl)) (fun _ _ _ h => h) (Or.inl ⟨by rfl, ?_⟩) hHeld ?_ ?_
            rotate_left
            ·rintro w' ⟨s0, s1, s2, s3, s4, s5, s6, s7, s8, s9, s10, s11, s12⟩
             go_simp
             with_reducible rfl
            rotate_left
            ·simp only [Act.put, List.setIfInBounds_toArray, List.set_cons_zero, List.set_cons_succ, i64_w, i32_w]
             rfl
            refine one_ (i := 8) (N := some 47) #[true, true, true, true, true, true, true, true, true, false] rfl rfl (one_of HT_.out (by kernel_rfl)) (by decide) (fun K hK => ?_)
            refine goes_ Try.func80 (by kernel_rfl) rfl #[.agg #[.int .i64 (wrap64 (x253000_1 + 1)), .int .i64 x253001_1, .int .i64 x253002_1, .bool x253003_1, .int .i64 x253004_1, .string x253005_1, .bool x253006_1, .int .i64 x253007_1, .string x253008_1], .agg #[.bool false, .int .i64 ((rd_T37 (rd_L7 l0 x7_1) a1).f1), .string ((rd_T37 (rd_L7 l0 x7_1) a1).f2)]] (by rfl) rfl rfl (by (try simp only [List.map_toArray, List.map_cons, List.map_nil]); first | done | rfl | (simp only [List.length_drop, List.length_take]; rfl)) ?_
            with_reducible refine (tithebarnref18_add.calls kj5 (wrap64 (x253000_1 + 1)) x253001_1 x253002_1 x253003_1 x253004_1 x253005_1 x253006_1 x253007_1 x253008_1 false ((rd_T37 (rd_L7 l0 x7_1) a1).f1) ((rd_T37 (rd_L7 l0 x7_1) a1).f2) t258 t259 t260 t261 t262 t263 t264 t265 t266 _ (by first | exact A20.out | (have z_ := A20.out; (try rw [← Nbq16.out] at z_); exact z_))).mono ?_
            rintro e w25 ⟨rfl, hb⟩
            refine ⟨_, rfl, ?_⟩
            have n0_ := Aside0.mk (blk_below (g := gb251) (o := .cells #[.int .i64 x252000_1, .int .i64 x252001_1, .int .i64 x252002_1, .bool x252003_1, .int .i64 x252004_1, .string x252005_1, .bool x252006_1, .int .i64 x252007_1, .string x252008_1] 47 (0, 0)) (by (with_reducible repeat (first | refine blk_drewN ?_ _ | refine blk_drew ?_ | refine blk_alloc ?_ _)); exact BK251.out) hb)
            have n1_ := Aside0.mk (blk_below (g := gb252) (o := .cells #[.int .i64 (wrap64 (x253000_1 + 1)), .int .i64 x253001_1, .int .i64 x253002_1, .bool x253003_1, .int .i64 x253004_1, .string x253005_1, .bool x253006_1, .int .i64 x253007_1, .string x253008_1] 47 (0, 0)) (by (with_reducible repeat (first | refine blk_drewN ?_ _ | refine blk_drew ?_ | refine blk_alloc ?_ _)); exact BK252.out) hb)
            have n2_ := Aside0.mk (below_step (by with_reducible repeat first | exact HB.out | apply below_alloc | apply pw_below_drewN | apply below_drew1 | refine below_set ?_ GE251.out | refine below_set ?_ GE252.out) hb)
            clear BK251
            clear BK252
            clear HB
            have BK251 := n0_
            have BK252 := n1_
            have HB := n2_
            clear n0_ n1_ n2_
            (try clear hb)
            (try clear hb2)
            (try clear hk)
            (try clear hi)
            refine hK.out _ _ ⟨(blk_cell BK252.out 0).trans rfl, (blk_cell BK252.out 1).trans rfl, (blk_cell BK252.out 2).trans rfl, (blk_cell BK252.out 3).trans rfl, (blk_cell BK252.out 4).trans rfl, (blk_cell BK252.out 5).trans rfl, (blk_cell BK252.out 6).trans rfl, (blk_cell BK252.out 7).trans rfl, (blk_cell BK252.out 8).trans rfl, (pw_cell_below HB.out hw256_0), (pw_cell_below HB.out hw257_0), (pw_cell_below HB.out hw257_1), (pw_cell_below HB.out hw257_2)⟩ (fun hHeld => ?_)
            clear hK K
            refine norm_ (a' := ?_) ?_ ?_
            rotate_left
            ·show Act.put _ (some 47) _ = _
             simp only [Act.put, List.setIfInBounds_toArray, List.set_cons_zero, List.set_cons_succ, i64_w, i32_w]
             rfl
            refine last_ (i := 9) (N := none) #[true, true, true, true, true, true, true, true, true, true] rfl rfl (one_of HT_.out (by kernel_rfl)) (by decide) (fun K hK => ?_)
            have hs26 : w25.cell? ⟨gb252, 0, none⟩ = some (.int .i64 (wrap64 (x253000_1 + 1))) := (blk_cell BK252.out 0).trans rfl
            have hfs26 := blk_frozen BK252.out 0
            have hns26_0 := NB251_252.out
            have hms26_0 := NB252_251.out
            have hs27 : w25.cell? ⟨gb252, 1, none⟩ = some (.int .i64 x253001_1) := (blk_cell BK252.out 1).trans rfl
            have hfs27 := blk_frozen BK252.out 1
            have hns27_0 := NB251_252.out
            have hms27_0 := NB252_251.out
            have hs28 : w25.cell? ⟨gb252, 2, none⟩ = some (.int .i64 x253002_1) := (blk_cell BK252.out 2).trans rfl
            have hfs28 := blk_frozen BK252.out 2
            have hns28_0 := NB251_252.out
            have hms28_0 := NB252_251.out
            have hs29 : w25.cell? ⟨gb252, 3, none⟩ = some (.bool x253003_1) := (blk_cell BK252.out 3).trans rfl
            have hfs29 := blk_frozen BK252.out 3
            have hns29_0 := NB251_252.out
            have hms29_0 := NB252_251.out
            have hs30 : w25.cell? ⟨gb252, 4, none⟩ = some (.int .i64 x253004_1) := (blk_cell BK252.out 4).trans rfl
            have hfs30 := blk_frozen BK252.out 4
            have hns30_0 := NB251_252.out
            have hms30_0 := NB252_251.out
            have hs31 : w25.cell? ⟨gb252, 5, none⟩ = some (.string x253005_1) := (blk_cell BK252.out 5).trans rfl
            have hfs31 := blk_frozen BK252.out 5
            have hns31_0 := NB251_252.out
            have hms31_0 := NB252_251.out
            have hs32 : w25.cell? ⟨gb252, 6, none⟩ = some (.bool x253006_1) := (blk_cell BK252.out 6).trans rfl
            have hfs32 := blk_frozen BK252.out 6
            have hns32_0 := NB251_252.out
            have hms32_0 := NB252_251.out
            have hs33 : w25.cell? ⟨gb252, 7, none⟩ = some (.int .i64 x253007_1) := (blk_cell BK252.out 7).trans rfl
            have hfs33 := blk_frozen BK252.out 7
            have hns33_0 := NB251_252.out
            have hms33_0 := NB252_251.out
            have hs34 : w25.cell? ⟨gb252, 8, none⟩ = some (.string x253008_1) := (blk_cell BK252.out 8).trans rfl
            have hfs34 := blk_frozen BK252.out 8
            have hns34_0 := NB251_252.out
            have hms34_0 := NB252_251.out
            refine skip_ (w1 := ?_) (by rfl) rfl ?_ ?_
            rotate_left
            ·go_simp
             rfl
            refine hK.out _ _ ?_
            clear hK K
            refine done_ (done_of HT_.out (by kernel_rfl)) ?_
            try go_wp2
            go_roundg kj5
            case measure => have := HK1.out; have := HJ5.out; omega
            case rel => exact ⟨(wrap64 (x7_1 + 1)), (x252000_1), (x252001_1), (x252002_1), (x252003_1), (x252004_1), (x252005_1), (x252006_1), (x252007_1), (x252008_1), (t258), (t259), (t260), (t261), (t262), (t263), (t264), (t265), (t266), (by first | rfl | (simp; done) | (simp [*]; done)), H', ⟨by have := HK1.out; have := HJ5.out; omega⟩, ⟨by (iterate 9 (refine blk_far ?_ NB251_252.out _)); (with_reducible repeat (first | refine blk_drewN ?_ _ | refine blk_drew ?_ | refine blk_alloc ?_ _)); exact BK251.out⟩, ⟨by refine blk_put (cs := #[.int .i64 t258, .int .i64 t259, .int .i64 t260, .bool t261, .int .i64 t262, .string t263, .bool t264, .int .i64 t265, .string x253008_1]) ?_ 8 _ rfl; refine blk_put (cs := #[.int .i64 t258, .int .i64 t259, .int .i64 t260, .bool t261, .int .i64 t262, .string t263, .bool t264, .int .i64 x253007_1, .string x253008_1]) ?_ 7 _ rfl; refine blk_put (cs := #[.int .i64 t258, .int .i64 t259, .int .i64 t260, .bool t261, .int .i64 t262, .string t263, .bool x253006_1, .int .i64 x253007_1, .string x253008_1]) ?_ 6 _ rfl; refine blk_put (cs := #[.int .i64 t258, .int .i64 t259, .int .i64 t260, .bool t261, .int .i64 t262, .string x253005_1, .bool x253006_1, .int .i64 x253007_1, .string x253008_1]) ?_ 5 _ rfl; refine blk_put (cs := #[.int .i64 t258, .int .i64 t259, .int .i64 t260, .bool t261, .int .i64 x253004_1, .string x253005_1, .bool x253006_1, .int .i64 x253007_1, .string x253008_1]) ?_ 4 _ rfl; refine blk_put (cs := #[.int .i64 t258, .int .i64 t259, .int .i64 t260, .bool x253003_1, .int .i64 x253004_1, .string x253005_1, .bool x253006_1, .int .i64 x253007_1, .string x253008_1]) ?_ 3 _ rfl; refine blk_put (cs := #[.int .i64 t258, .int .i64 t259, .int .i64 x253002_1, .bool x253003_1, .int .i64 x253004_1, .string x253005_1, .bool x253006_1, .int .i64 x253007_1, .string x253008_1]) ?_ 2 _ rfl; refine blk_put (cs := #[.int .i64 t258, .int .i64 x253001_1, .int .i64 x253002_1, .bool x253003_1, .int .i64 x253004_1, .string x253005_1, .bool x253006_1, .int .i64 x253007_1, .string x253008_1]) ?_ 1 _ rfl; refine blk_put (cs := #[.int .i64 (wrap64 (x253000_1 + 1)), .int .i64 x253001_1, .int .i64 x253002_1, .bool x253003_1, .int .i64 x253004_1, .string x253005_1, .bool x253006_1, .int .i64 x253007_1, .string x253008_1]) ?_ 0 _ rfl; (with_reducible repeat (first | refine blk_drewN ?_ _ | refine blk_drew ?_ | refine blk_alloc ?_ _)); exact BK252.out⟩, ⟨by repeat (first | (with_reducible first | exact HB.out | apply below_alloc | apply pw_below_drewN | apply below_drew1 | refine below_set ?_ GE251.out | refine below_set ?_ GE252.out) | exact HB.out)⟩⟩
          ·rw [if_neg c15] at H
           exact absurd H (by simp)
         ·rw [if_neg c14] at H
          exact absurd H (by simp)
        ·rw [if_neg c13] at H
         exact absurd H (by simp)
       ·rw [if_neg c12] at H
        exact absurd H (by simp)
   ·rw [if_neg c5] at H
    have c5b0 : decide (x7_1 < (l0.length : Int)) = false := decide_eq_false c5
    clear c5
    simp only [Option.some.injEq, Prod.mk.injEq] at H
    obtain ⟨rfl, rfl, rfl, rfl, rfl, rfl, rfl, rfl, rfl, rfl⟩ := H
    have hnb35 := NB252_251.out
    have hnc35 := NB251_252.out
    obtain ⟨hcz36_0, hcz36_1, hcz36_2, hcz36_3, hcz36_4, hcz36_5, hcz36_6, hcz36_7, hcz36_8⟩ := bc9 BK252.out
    obtain ⟨hfz36_0, hfz36_1, hfz36_2, hfz36_3, hfz36_4, hfz36_5, hfz36_6, hfz36_7, hfz36_8⟩ := bf9 BK252.out
    obtain ⟨hcz37_0, hcz37_1, hcz37_2, hcz37_3, hcz37_4, hcz37_5, hcz37_6, hcz37_7, hcz37_8⟩ := bc9 BK251.out
    obtain ⟨hfz37_0, hfz37_1, hfz37_2, hfz37_3, hfz37_4, hfz37_5, hfz37_6, hfz37_7, hfz37_8⟩ := bf9 BK251.out
    go_wp2
    refine bodyPost_ret (results_ct rfl _ _ gb251 47 #[.int .i64 x253000_1, .int .i64 x253001_1, .int .i64 x253002_1, .bool x253003_1, .int .i64 x253004_1, .string x253005_1, .bool x253006_1, .int .i64 x253007_1, .string x253008_1] (0, 0) _ rfl (by refine blk_put (cs := #[.int .i64 x253000_1, .int .i64 x253001_1, .int .i64 x253002_1, .bool x253003_1, .int .i64 x253004_1, .string x253005_1, .bool x253006_1, .int .i64 x253007_1, .string x252008_1]) ?_ 8 _ rfl; refine blk_put (cs := #[.int .i64 x253000_1, .int .i64 x253001_1, .int .i64 x253002_1, .bool x253003_1, .int .i64 x253004_1, .string x253005_1, .bool x253006_1, .int .i64 x252007_1, .string x252008_1]) ?_ 7 _ rfl; refine blk_put (cs := #[.int .i64 x253000_1, .int .i64 x253001_1, .int .i64 x253002_1, .bool x253003_1, .int .i64 x253004_1, .string x253005_1, .bool x252006_1, .int .i64 x252007_1, .string x252008_1]) ?_ 6 _ rfl; refine blk_put (cs := #[.int .i64 x253000_1, .int .i64 x253001_1, .int .i64 x253002_1, .bool x253003_1, .int .i64 x253004_1, .string x252005_1, .bool x252006_1, .int .i64 x252007_1, .string x252008_1]) ?_ 5 _ rfl; refine blk_put (cs := #[.int .i64 x253000_1, .int .i64 x253001_1, .int .i64 x253002_1, .bool x253003_1, .int .i64 x252004_1, .string x252005_1, .bool x252006_1, .int .i64 x252007_1, .string x252008_1]) ?_ 4 _ rfl; refine blk_put (cs := #[.int .i64 x253000_1, .int .i64 x253001_1, .int .i64 x253002_1, .bool x252003_1, .int .i64 x252004_1, .string x252005_1, .bool x252006_1, .int .i64 x252007_1, .string x252008_1]) ?_ 3 _ rfl; refine blk_put (cs := #[.int .i64 x253000_1, .int .i64 x253001_1, .int .i64 x252002_1, .bool x252003_1, .int .i64 x252004_1, .string x252005_1, .bool x252006_1, .int .i64 x252007_1, .string x252008_1]) ?_ 2 _ rfl; refine blk_put (cs := #[.int .i64 x253000_1, .int .i64 x252001_1, .int .i64 x252002_1, .bool x252003_1, .int .i64 x252004_1, .string x252005_1, .bool x252006_1, .int .i64 x252007_1, .string x252008_1]) ?_ 1 _ rfl; refine blk_put (cs := #[.int .i64 x252000_1, .int .i64 x252001_1, .int .i64 x252002_1, .bool x252003_1, .int .i64 x252004_1, .string x252005_1, .bool x252006_1, .int .i64 x252007_1, .string x252008_1]) ?_ 0 _ rfl; (with_reducible repeat (first | refine blk_drewN ?_ _ | refine blk_drew ?_ | refine blk_alloc ?_ _)); exact BK251.out) Try.underlying47 rfl (by kernel_rfl)) rfl ?_
    exact ⟨by first | rfl | (simp [errW_none, errW_some] <;> rfl) | (simp [*, errW_none, errW_some] <;> rfl), by repeat (first | (with_reducible first | exact HB.out | apply below_alloc | apply pw_below_drewN | apply below_drew1 | refine below_set ?_ GE251.out | refine below_set ?_ GE252.out) | exact HB.out)⟩

end Go.Proofs.Ythlelhndmnkmjaa.Pr
