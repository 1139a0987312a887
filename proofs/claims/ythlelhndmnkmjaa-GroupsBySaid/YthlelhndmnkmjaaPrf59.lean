-- printed by xprint.py
import Derived.Test.YthlelhndmnkmjaaPr0
import Derived.Test.YthlelhndmnkmjaaPrf50
import Derived.Test.YthlelhndmnkmjaaPrf33
import Derived.Test.YthlelhndmnkmjaaPrf61
import Derived.Test.YthlelhndmnkmjaaFull
namespace Go.Proofs.Ythlelhndmnkmjaa.Pr
open Go.RowKit Go.Proofs.YthlelhndmnkmjaaW PrintWords PrintLast PrintMore
set_option linter.unusedVariables false
set_option linter.unusedSimpArgs false

/-! ### tithebarnref24_add: function 59 -/
mutual
def tithebarnref24_add.l0 : Nat → List (S49) → Int → Bool → Int → ByteArray → Int → Int → Int → Bool → Int → ByteArray → Bool → Int → ByteArray → Option ((List (S49)))
 | 0, _, _, _, _, _, _, _, _, _, _, _, _, _, _ => none
 | k + 1, x0, x5, x278000, x278001, x278002, x278003, x278004, x278005, x278006, x278007, x278008, x278009, x278010, x278011 => if x5 < (x0.length : Int) then (if 0 ≤ x5 then ((tithebarnref02_Ahead_c.f ((rd_T49 x0 x5).f0.f0) ((rd_T49 x0 x5).f0.f1) ((rd_T49 x0 x5).f0.f2) x278000 x278001 x278002).bind fun t279 => (tithebarnref24_add.j1 k x0 x5 t279 x278000 x278001 x278002 x278003 x278004 x278005 x278006 x278007 x278008 x278009 x278010 x278011)) else (none)) else (tithebarnref24_add.j1 k x0 x5 false x278000 x278001 x278002 x278003 x278004 x278005 x278006 x278007 x278008 x278009 x278010 x278011)
def tithebarnref24_add.j1 : Nat → List (S49) → Int → Bool → Bool → Int → ByteArray → Int → Int → Int → Bool → Int → ByteArray → Bool → Int → ByteArray → Option ((List (S49)))
 | 0, _, _, _, _, _, _, _, _, _, _, _, _, _, _, _ => none
 | k + 1, x0, x5, x20, x278000, x278001, x278002, x278003, x278004, x278005, x278006, x278007, x278008, x278009, x278010, x278011 => if x20 = true then (tithebarnref24_add.l0 k x0 (wrap64 (x5 + 1)) x278000 x278001 x278002 x278003 x278004 x278005 x278006 x278007 x278008 x278009 x278010 x278011) else (if ([] : List (S49)).length + x0.length < 1172812402961 then ((some (([] : List (S49)) ++ x0 : List (S49))).bind fun y280 => (if x5 < (x0.length : Int) then (if 0 ≤ x5 then ((tithebarnref02_Compare_c.f ((rd_T49 x0 x5).f0.f0) ((rd_T49 x0 x5).f0.f1) ((rd_T49 x0 x5).f0.f2) x278000 x278001 x278002).bind fun t284 => (tithebarnref24_add.j2 k x0 x5 y280 (t284 == 0) x278000 x278001 x278002 x278003 x278004 x278005 x278006 x278007 x278008 x278009 x278010 x278011)) else (none)) else (tithebarnref24_add.j2 k x0 x5 y280 false x278000 x278001 x278002 x278003 x278004 x278005 x278006 x278007 x278008 x278009 x278010 x278011))) else (none))
def tithebarnref24_add.j2 : Nat → List (S49) → Int → List (S49) → Bool → Bool → Int → ByteArray → Int → Int → Int → Bool → Int → ByteArray → Bool → Int → ByteArray → Option ((List (S49)))
 | 0, _, _, _, _, _, _, _, _, _, _, _, _, _, _, _, _ => none
 | k + 1, x0, x5, x6, x39, x278000, x278001, x278002, x278003, x278004, x278005, x278006, x278007, x278008, x278009, x278010, x278011 => if x39 = true then (if 0 ≤ x5 then (if x5 < (x0.length : Int) then ((tithebarnref18_Join.f k ((rd_T49 x0 x5).f1.f0) ((rd_T49 x0 x5).f1.f1) ((rd_T49 x0 x5).f1.f2) ((rd_T49 x0 x5).f1.f3.f0) ((rd_T49 x0 x5).f1.f3.f1) ((rd_T49 x0 x5).f1.f3.f2) ((rd_T49 x0 x5).f1.f4.f0) ((rd_T49 x0 x5).f1.f4.f1) ((rd_T49 x0 x5).f1.f4.f2) x278003 x278004 x278005 x278006 x278007 x278008 x278009 x278010 x278011).bind fun bt286 => (if x5 < (x6.length : Int) then (some (x6.set (x5 : Int).toNat (⟨(⟨(rd_T49 x6 x5).f0.f0, (rd_T49 x6 x5).f0.f1, (rd_T49 x6 x5).f0.f2⟩ : S37), (⟨bt286.1, bt286.2.1, bt286.2.2.1, (⟨bt286.2.2.2.1, bt286.2.2.2.2.1, bt286.2.2.2.2.2.1⟩ : S37), (⟨bt286.2.2.2.2.2.2.1, bt286.2.2.2.2.2.2.2.1, bt286.2.2.2.2.2.2.2.2⟩ : S37)⟩ : S47)⟩ : S49))) else (none))) else (none)) else (none)) else (if 0 ≤ x5 then (if x5 ≤ (x6.length : Int) then ((some (x6.take (x5 : Int).toNat : List (S49))).bind fun y296 => (if y296.length < 1172812402961 then ((some (y296 ++ [(⟨(⟨x278000, x278001, x278002⟩ : S37), (⟨x278003, x278004, x278005, (⟨x278006, x278007, x278008⟩ : S37), (⟨x278009, x278010, x278011⟩ : S37)⟩ : S47)⟩ : S49)] : List (S49))).bind fun y300 => (if x5 ≤ (x0.length : Int) then ((some (x0.drop (x5 : Int).toNat : List (S49))).bind fun y303 => (if y300.length + y303.length < 1172812402961 then (some (y300 ++ y303)) else (none))) else (none))) else (none))) else (none)) else (none))
end
def tithebarnref24_add.f (k : Nat) (l0 : List (S49)) (a1_0 : Bool) (a1_1 : Int) (a1_2 : ByteArray) (a1_3 : Int) (a1_4 : Int) (a1_5 : Int) (a1_6 : Bool) (a1_7 : Int) (a1_8 : ByteArray) (a1_9 : Bool) (a1_10 : Int) (a1_11 : ByteArray) : Option ((List (S49))) := tithebarnref24_add.l0 k l0 0 a1_0 a1_1 a1_2 a1_3 a1_4 a1_5 a1_6 a1_7 a1_8 a1_9 a1_10 a1_11
theorem tithebarnref24_add.mono_l : ∀ k, (∀ y0 y1 y2 y3 y4 y5 y6 y7 y8 y9 y10 y11 y12 y13, LeO (tithebarnref24_add.l0 k y0 y1 y2 y3 y4 y5 y6 y7 y8 y9 y10 y11 y12 y13) (tithebarnref24_add.l0 (k + 1) y0 y1 y2 y3 y4 y5 y6 y7 y8 y9 y10 y11 y12 y13)) ∧ (∀ y0 y1 y2 y3 y4 y5 y6 y7 y8 y9 y10 y11 y12 y13 y14, LeO (tithebarnref24_add.j1 k y0 y1 y2 y3 y4 y5 y6 y7 y8 y9 y10 y11 y12 y13 y14) (tithebarnref24_add.j1 (k + 1) y0 y1 y2 y3 y4 y5 y6 y7 y8 y9 y10 y11 y12 y13 y14)) ∧ (∀ y0 y1 y2 y3 y4 y5 y6 y7 y8 y9 y10 y11 y12 y13 y14 y15, LeO (tithebarnref24_add.j2 k y0 y1 y2 y3 y4 y5 y6 y7 y8 y9 y10 y11 y12 y13 y14 y15) (tithebarnref24_add.j2 (k + 1) y0 y1 y2 y3 y4 y5 y6 y7 y8 y9 y10 y11 y12 y13 y14 y15))
 | 0 => ⟨fun _ _ _ _ _ _ _ _ _ _ _ _ _ _ r h => by simp [tithebarnref24_add.l0] at h, fun _ _ _ _ _ _ _ _ _ _ _ _ _ _ _ r h => by simp [tithebarnref24_add.j1] at h, fun _ _ _ _ _ _ _ _ _ _ _ _ _ _ _ _ r h => by simp [tithebarnref24_add.j2] at h⟩
 | k + 1 => by
  obtain ⟨ih0, ih1, ih2⟩ := tithebarnref24_add.mono_l k
  refine ⟨?_, ?_, ?_⟩
  ·intro y0 y1 y2 y3 y4 y5 y6 y7 y8 y9 y10 y11 y12 y13
   unfold tithebarnref24_add.l0
   repeat' first
   | (with_reducible exact ih0 _ _ _ _ _ _ _ _ _ _ _ _ _ _)
   | (with_reducible exact ih1 _ _ _ _ _ _ _ _ _ _ _ _ _ _ _)
   | (with_reducible exact ih2 _ _ _ _ _ _ _ _ _ _ _ _ _ _ _ _)
   | (with_reducible exact tithebarnref18_Join.mono _ _ _ _ _ _ _ _ _ _ _ _ _ _ _ _ _ _ _)
   | (with_reducible exact LeO.refl _)
   | (with_reducible exact LeO.none _)
   | (with_reducible refine LeO.ite ?_ ?_)
   | (with_reducible refine LeO.bind ?_ (fun _ => ?_))
  ·intro y0 y1 y2 y3 y4 y5 y6 y7 y8 y9 y10 y11 y12 y13 y14
   unfold tithebarnref24_add.j1
   repeat' first
   | (with_reducible exact ih0 _ _ _ _ _ _ _ _ _ _ _ _ _ _)
   | (with_reducible exact ih1 _ _ _ _ _ _ _ _ _ _ _ _ _ _ _)
   | (with_reducible exact ih2 _ _ _ _ _ _ _ _ _ _ _ _ _ _ _ _)
   | (with_reducible exact tithebarnref18_Join.mono _ _ _ _ _ _ _ _ _ _ _ _ _ _ _ _ _ _ _)
   | (with_reducible exact LeO.refl _)
   | (with_reducible exact LeO.none _)
   | (with_reducible refine LeO.ite ?_ ?_)
   | (with_reducible refine LeO.bind ?_ (fun _ => ?_))
  ·intro y0 y1 y2 y3 y4 y5 y6 y7 y8 y9 y10 y11 y12 y13 y14 y15
   unfold tithebarnref24_add.j2
   repeat' first
   | (with_reducible exact ih0 _ _ _ _ _ _ _ _ _ _ _ _ _ _)
   | (with_reducible exact ih1 _ _ _ _ _ _ _ _ _ _ _ _ _ _ _)
   | (with_reducible exact ih2 _ _ _ _ _ _ _ _ _ _ _ _ _ _ _ _)
   | (with_reducible exact tithebarnref18_Join.mono _ _ _ _ _ _ _ _ _ _ _ _ _ _ _ _ _ _ _)
   | (with_reducible exact LeO.refl _)
   | (with_reducible exact LeO.none _)
   | (with_reducible refine LeO.ite ?_ ?_)
   | (with_reducible refine LeO.bind ?_ (fun _ => ?_))
theorem tithebarnref24_add.mono : ∀ a0 a1 a2 a3 a4 a5 a6 a7 a8 a9 a10 a11 a12 k, LeO (tithebarnref24_add.f k a0 a1 a2 a3 a4 a5 a6 a7 a8 a9 a10 a11 a12) (tithebarnref24_add.f (k + 1) a0 a1 a2 a3 a4 a5 a6 a7 a8 a9 a10 a11 a12) := by
 intro a0 a1 a2 a3 a4 a5 a6 a7 a8 a9 a10 a11 a12 k
 obtain ⟨ih0, ih1, ih2⟩ := tithebarnref24_add.mono_l k
 unfold tithebarnref24_add.f
 repeat' first
   | (with_reducible exact ih0 _ _ _ _ _ _ _ _ _ _ _ _ _ _)
   | (with_reducible exact ih1 _ _ _ _ _ _ _ _ _ _ _ _ _ _ _)
   | (with_reducible exact ih2 _ _ _ _ _ _ _ _ _ _ _ _ _ _ _ _)
   | (with_reducible exact tithebarnref18_Join.mono _ _ _ _ _ _ _ _ _ _ _ _ _ _ _ _ _ _ _)
   | (with_reducible exact LeO.refl _)
   | (with_reducible exact LeO.none _)
   | (with_reducible refine LeO.ite ?_ ?_)
   | (with_reducible refine LeO.bind ?_ (fun _ => ?_))
def tithebarnref24_add.T2 : Bool × List (List Nat × List Nat) := (true, [([], []), ([], []), ([1], [1]), ([0, 2], [0, 2]), ([3], [3]), ([4], [4]), ([4], [4]), ([5, 6, 4], [4, 5, 6]), ([7, 4], [4, 7]), ([8, 4], [4, 8]), ([4], [4]), ([10, 4], [4, 10]), ([9, 11, 4, 4], [4, 9, 11]), ([4, 12], [4, 12])])
def tithebarnref24_add.B2 : List Nat := [0, 0, 2, 7, 15, 31, 31, 127, 255, 511, 31, 1055, 4095, 8191]
theorem tithebarnref24_add.tab2 : rtab .any (opsOf Try.f59 2) = tithebarnref24_add.T2 := by kernel_rfl
theorem tithebarnref24_add.bits2 : waitsOk tithebarnref24_add.T2.2 tithebarnref24_add.B2 = true := by kernel_rfl
def tithebarnref24_add.T5 : Bool × List (List Nat × List Nat) := (true, [([], []), ([], []), ([1], [1]), ([0, 2], [0, 2]), ([3], [3]), ([4], [4]), ([4], [4]), ([5, 6, 4], [4, 5, 6]), ([7, 4], [4, 7]), ([8, 4], [4, 8]), ([4], [4]), ([10, 4], [4, 10]), ([9, 11, 4, 4], [4, 9, 11]), ([12, 4], [4, 12]), ([4, 13], [4, 13])])
def tithebarnref24_add.B5 : List Nat := [0, 0, 2, 7, 15, 31, 31, 127, 255, 511, 31, 1055, 4095, 8191, 16383]
theorem tithebarnref24_add.tab5 : rtab .any (opsOf Try.f59 5) = tithebarnref24_add.T5 := by kernel_rfl
theorem tithebarnref24_add.bits5 : waitsOk tithebarnref24_add.T5.2 tithebarnref24_add.B5 = true := by kernel_rfl
def tithebarnref24_add.T6 : Bool × List (List Nat × List Nat) := (true, [([], []), ([], []), ([], []), ([], []), ([2, 3], [2, 3]), ([4], [4]), ([5], [5]), ([], []), ([7], [7]), ([6, 8], [6, 8]), ([0, 1, 0, 1, 2, 3, 4, 5, 6, 7, 8, 9], [0, 1]), ([10, 0, 1, 2, 3, 4, 5, 6, 7, 8, 9], [10]), ([11, 9, 9, 0, 1, 2, 3, 4, 5, 6, 7, 8, 9], [9, 11])])
def tithebarnref24_add.B6 : List Nat := [0, 0, 0, 0, 12, 28, 60, 0, 128, 508, 1023, 2047, 4095]
theorem tithebarnref24_add.tab6 : rtab .any (opsOf Try.f59 6) = tithebarnref24_add.T6 := by kernel_rfl
theorem tithebarnref24_add.bits6 : waitsOk tithebarnref24_add.T6.2 tithebarnref24_add.B6 = true := by kernel_rfl
def tithebarnref24_add.T8 : Bool × List (List Nat × List Nat) := (true, [([], []), ([], []), ([], []), ([0, 1, 2], [0, 1, 2]), ([], []), ([4], [4]), ([3, 5], [3, 5]), ([], []), ([], []), ([7, 8], [7, 8]), ([6, 9, 6], [6, 9]), ([10, 10, 0, 1, 2, 3, 4, 5, 6, 7, 8, 9, 10], [10])])
def tithebarnref24_add.B8 : List Nat := [0, 0, 0, 7, 0, 16, 63, 0, 0, 384, 1023, 2047]
theorem tithebarnref24_add.tab8 : rtab .any (opsOf Try.f59 8) = tithebarnref24_add.T8 := by kernel_rfl
theorem tithebarnref24_add.bits8 : waitsOk tithebarnref24_add.T8.2 tithebarnref24_add.B8 = true := by kernel_rfl
set_option maxHeartbeats 8000000 in
set_option maxRecDepth 100000 in
theorem tithebarnref24_add.calls (k : Nat) (A0 : Option Addr) (c0 : Nat) (l0 : List (S49)) (a1_0 : Bool) (a1_1 : Int) (a1_2 : ByteArray) (a1_3 : Int) (a1_4 : Int) (a1_5 : Int) (a1_6 : Bool) (a1_7 : Int) (a1_8 : ByteArray) (a1_9 : Bool) (a1_10 : Int) (a1_11 : ByteArray) (r : List (S49)) (w : World) (hr0 : Kd.C k49 w A0 l0.length l0) (hc0 : l0.length ≤ c0) (h : tithebarnref24_add.f k l0 a1_0 a1_1 a1_2 a1_3 a1_4 a1_5 a1_6 a1_7 a1_8 a1_9 a1_10 a1_11 = some r) :
  Calls Try.prog 59 #[.slice A0 l0.length c0, .agg #[.bool a1_0, .int .i64 a1_1, .string a1_2, .int .i64 a1_3, .int .i64 a1_4, .int .i64 a1_5, .bool a1_6, .int .i64 a1_7, .string a1_8, .bool a1_9, .int .i64 a1_10, .string a1_11]] w fun e w' => ∃ v0_ : Value, e = .returned (v0_) ∧ Kd.R k49 49 w' w.heap.size (fun _ => True) v0_ r ∧ Below w.heap.size w w' := by
 have hu49 := Try.underlying49
 have hu37 := Try.underlying37
 have hu47 := Try.underlying47
 have HR0 := Aside0.mk hr0
 have HC0 := Aside0.mk hc0
 clear hr0 hc0
 have HB := Aside0.mk (Below.refl w.heap.size w)
 have H : (tithebarnref24_add.l0 k l0 0 a1_0 a1_1 a1_2 a1_3 a1_4 a1_5 a1_6 a1_7 a1_8 a1_9 a1_10 a1_11) = some r := h
 clear h
 have H' := Aside0.mk H
 clear H
 go_enter Try.func59, Try.ntmps59
 go_wp2_with (first | ((with_reducible refine gate_dst (N := 3) rfl ?_); refine box_event ?hg (N := 3) ?hd (cs := #[.bool a1_0, .int .i64 a1_1, .string a1_2, .int .i64 a1_3, .int .i64 a1_4, .int .i64 a1_5, .bool a1_6, .int .i64 a1_7, .string a1_8, .bool a1_9, .int .i64 a1_10, .string a1_11]) (t := 49) ?hr ?_; (case hd => rfl); (case hg => rfl); (case hr => first | (go_simp; done) | (go_simp; rfl)); intro gb277 hg w3 hbox hb; have n0_ := Aside0.mk (below_step (by with_reducible repeat first | exact HB.out | apply below_alloc | apply pw_below_drewN | apply below_drew1) hb); have n1_ := Aside0.mk (hbox); have n2_ := Aside0.mk ((by rw [hg]; exact (below_size (by with_reducible repeat first | exact HB.out | apply below_alloc | apply pw_below_drewN | apply below_drew1)) : w.heap.size ≤ gb277)); have n3_ := Aside0.mk ((by rw [hg]; exact (below_size (by with_reducible repeat first | exact HB.out | apply below_alloc | apply pw_below_drewN | apply below_drew1)) : w.heap.size ≤ gb277)); clear HB; have HB := n0_; have BK277 := n1_; have GW277 := n2_; have GE277 := n3_; clear n0_ n1_ n2_ n3_; clear hb hbox hg))
 go_loopg [5] k (fun kq v5 w' => ∃ (x5_1 : Int), v5 = .int .i64 x5_1 ∧ Aside0 (tithebarnref24_add.l0 kq l0 x5_1 a1_0 a1_1 a1_2 a1_3 a1_4 a1_5 a1_6 a1_7 a1_8 a1_9 a1_10 a1_11 = some r) ∧ Aside0 (kq ≤ k) ∧ Aside0 (w'.heap[gb277]? = some (.cells #[.bool a1_0, .int .i64 a1_1, .string a1_2, .int .i64 a1_3, .int .i64 a1_4, .int .i64 a1_5, .bool a1_6, .int .i64 a1_7, .string a1_8, .bool a1_9, .int .i64 a1_10, .string a1_11] 49 (0, 0))) ∧ Aside0 (Below w.heap.size w w'))
 case atStart => exact ⟨(0), (by first | rfl | (simp; done) | (simp [*]; done)), H', ⟨Nat.le_refl _⟩, ⟨by (with_reducible repeat (first | refine blk_drewN ?_ _ | refine blk_drew ?_ | refine blk_alloc ?_ _)); exact BK277.out⟩, ⟨by repeat (first | (with_reducible first | exact HB.out | apply below_alloc | apply pw_below_drewN | apply below_drew1 | refine below_set ?_ GE277.out) | exact HB.out)⟩⟩
 case round =>
  clear H'
  try clear p2
  obtain ⟨x5_1, rfl, HA, HK1, BK277, HB⟩ := hrel
  cases gk with
  | zero => exact absurd HA.out (by simp [tithebarnref24_add.l0])
  | succ k1 =>
   have H := HA.out
   clear HA
   simp only [tithebarnref24_add.l0] at H
   have HC4 := Aside0.mk H
   clear H
   go_upto_region 2 with (fail)
   go_cut [20] (fun v20 wc => ∃ (kq : Nat) (x20_3 : Bool), v20 = .bool x20_3 ∧ Aside0 (tithebarnref24_add.j1 kq l0 x5_1 x20_3 a1_0 a1_1 a1_2 a1_3 a1_4 a1_5 a1_6 a1_7 a1_8 a1_9 a1_10 a1_11 = some r) ∧ Aside0 (kq ≤ k1) ∧ Aside0 (wc.heap[gb277]? = some (.cells #[.bool a1_0, .int .i64 a1_1, .string a1_2, .int .i64 a1_3, .int .i64 a1_4, .int .i64 a1_5, .bool a1_6, .int .i64 a1_7, .string a1_8, .bool a1_9, .int .i64 a1_10, .string a1_11] 49 (0, 0))) ∧ Aside0 (Below w.heap.size w wc))
   case first =>
    have H := HC4.out
    clear HC4
    by_cases c5 : x5_1 < (l0.length : Int)
    ·rw [if_pos c5] at H
     have c5b0 : decide (x5_1 < (l0.length : Int)) = true := decide_eq_true c5
     clear c5
     (first | rw [c5b0] | (simp only [i64_w, i32_w]; rw [c5b0]) | skip)
     by_cases c6 : 0 ≤ x5_1
     ·rw [if_pos c6] at H
      have c6b0 : decide (0 ≤ x5_1) = true := decide_eq_true c6
      clear c6
      replace H := Option.bind_eq_some_iff.mp H
      obtain ⟨t279, A70, H⟩ := H
      replace H : (tithebarnref24_add.j1 k1 l0 x5_1 t279 a1_0 a1_1 a1_2 a1_3 a1_4 a1_5 a1_6 a1_7 a1_8 a1_9 a1_10 a1_11) = some r := H
      have A7 := Aside0.mk A70
      clear A70
      have H' := Aside0.mk H
      clear H
      try go_wp2
      have n0_ := Aside0.mk (blk_drew BK277.out)
      have n1_ := Aside0.mk (below_drew1 HB.out)
      clear BK277
      clear HB
      have BK277 := n0_
      have HB := n1_
      clear n0_ n1_
      have p278 : 0 ≤ (x5_1 : Int) := of_decide_eq_true (by with_reducible assumption)
      have q278 : x5_1 < (l0.length : Int) := of_decide_eq_true (by with_reducible assumption)
      obtain ⟨ad278, e278, hx278_0, hx278_1, hx278_2, hx278_3, hx278_4, hx278_5, hx278_6, hx278_7, hx278_8, hx278_9, hx278_10, hx278_11⟩ := at_T49 HR0.out x5_1 p278 q278
      have hw278_11 := hx278_11
      have hw278_10 := hx278_10
      have hw278_9 := hx278_9
      have hw278_8 := hx278_8
      have hw278_7 := hx278_7
      have hw278_6 := hx278_6
      have hw278_5 := hx278_5
      have hw278_4 := hx278_4
      have hw278_3 := hx278_3
      have hw278_2 := hx278_2
      have hw278_1 := hx278_1
      have hw278_0 := hx278_0
      cases e278
      replace hx278_0 := pw_cell_below HB.out hx278_0
      replace hx278_1 := pw_cell_below HB.out hx278_1
      replace hx278_2 := pw_cell_below HB.out hx278_2
      replace hx278_3 := pw_cell_below HB.out hx278_3
      replace hx278_4 := pw_cell_below HB.out hx278_4
      replace hx278_5 := pw_cell_below HB.out hx278_5
      replace hx278_6 := pw_cell_below HB.out hx278_6
      replace hx278_7 := pw_cell_below HB.out hx278_7
      replace hx278_8 := pw_cell_below HB.out hx278_8
      replace hx278_9 := pw_cell_below HB.out hx278_9
      replace hx278_10 := pw_cell_below HB.out hx278_10
      replace hx278_11 := pw_cell_below HB.out hx278_11
      replace p278 := eq_true p278
      replace q278 := eq_true q278
      refine start_ (n := 14) (S := fun w' => w'.cell? ⟨gb277, 0, none⟩ = some (.bool a1_0) ∧ w'.cell? ⟨gb277, 1, none⟩ = some (.int .i64 a1_1) ∧ w'.cell? ⟨gb277, 2, none⟩ = some (.string a1_2) ∧ w'.cell? ⟨gb277, 3, none⟩ = some (.int .i64 a1_3) ∧ w'.cell? ⟨gb277, 4, none⟩ = some (.int .i64 a1_4) ∧ w'.cell? ⟨gb277, 5, none⟩ = some (.int .i64 a1_5) ∧ w'.cell? ⟨gb277, 6, none⟩ = some (.bool a1_6) ∧ w'.cell? ⟨gb277, 7, none⟩ = some (.int .i64 a1_7) ∧ w'.cell? ⟨gb277, 8, none⟩ = some (.string a1_8) ∧ w'.cell? ⟨gb277, 9, none⟩ = some (.bool a1_9) ∧ w'.cell? ⟨gb277, 10, none⟩ = some (.int .i64 a1_10) ∧ w'.cell? ⟨gb277, 11, none⟩ = some (.string a1_11) ∧ w'.cell? (ad278.add ((x5_1).toNat * 12)) = some (.bool ((rd_T49 l0 x5_1).f0.f0)) ∧ w'.cell? ⟨(ad278.add ((x5_1).toNat * 12)).block, (ad278.add ((x5_1).toNat * 12)).off + 1, none⟩ = some (.int .i64 ((rd_T49 l0 x5_1).f0.f1)) ∧ w'.cell? ⟨(ad278.add ((x5_1).toNat * 12)).block, (ad278.add ((x5_1).toNat * 12)).off + 2, none⟩ = some (.string ((rd_T49 l0 x5_1).f0.f2)) ∧ w'.cell? ⟨(ad278.add ((x5_1).toNat * 12)).block, (ad278.add ((x5_1).toNat * 12)).off + 3, none⟩ = some (.int .i64 ((rd_T49 l0 x5_1).f1.f0)) ∧ w'.cell? ⟨(ad278.add ((x5_1).toNat * 12)).block, (ad278.add ((x5_1).toNat * 12)).off + 4, none⟩ = some (.int .i64 ((rd_T49 l0 x5_1).f1.f1)) ∧ w'.cell? ⟨(ad278.add ((x5_1).toNat * 12)).block, (ad278.add ((x5_1).toNat * 12)).off + 5, none⟩ = some (.int .i64 ((rd_T49 l0 x5_1).f1.f2)) ∧ w'.cell? ⟨(ad278.add ((x5_1).toNat * 12)).block, (ad278.add ((x5_1).toNat * 12)).off + 6, none⟩ = some (.bool ((rd_T49 l0 x5_1).f1.f3.f0)) ∧ w'.cell? ⟨(ad278.add ((x5_1).toNat * 12)).block, (ad278.add ((x5_1).toNat * 12)).off + 7, none⟩ = some (.int .i64 ((rd_T49 l0 x5_1).f1.f3.f1)) ∧ w'.cell? ⟨(ad278.add ((x5_1).toNat * 12)).block, (ad278.add ((x5_1).toNat * 12)).off + 8, none⟩ = some (.string ((rd_T49 l0 x5_1).f1.f3.f2)) ∧ w'.cell? ⟨(ad278.add ((x5_1).toNat * 12)).block, (ad278.add ((x5_1).toNat * 12)).off + 9, none⟩ = some (.bool ((rd_T49 l0 x5_1).f1.f4.f0)) ∧ w'.cell? ⟨(ad278.add ((x5_1).toNat * 12)).block, (ad278.add ((x5_1).toNat * 12)).off + 10, none⟩ = some (.int .i64 ((rd_T49 l0 x5_1).f1.f4.f1)) ∧ w'.cell? ⟨(ad278.add ((x5_1).toNat * 12)).block, (ad278.add ((x5_1).toNat * 12)).off + 11, none⟩ = some (.string ((rd_T49 l0 x5_1).f1.f4.f2))) (ds := []) #[false, false, false, false, false, false, false, false, false, false, false, false, false, false] (by kernel_rfl) rfl rfl ⟨(blk_cell BK277.out 0).trans rfl, (blk_cell BK277.out 1).trans rfl, (blk_cell BK277.out 2).trans rfl, (blk_cell BK277.out 3).trans rfl, (blk_cell BK277.out 4).trans rfl, (blk_cell BK277.out 5).trans rfl, (blk_cell BK277.out 6).trans rfl, (blk_cell BK277.out 7).trans rfl, (blk_cell BK277.out 8).trans rfl, (blk_cell BK277.out 9).trans rfl, (blk_cell BK277.out 10).trans rfl, (blk_cell BK277.out 11).trans rfl, (pw_cell_below HB.out hw278_0), (pw_cell_below HB.out hw278_1), (pw_cell_below HB.out hw278_2), (pw_cell_below HB.out hw278_3), (pw_cell_below HB.out hw278_4), (pw_cell_below HB.out hw278_5), (pw_cell_below HB.out hw278_6), (pw_cell_below HB.out hw278_7), (pw_cell_below HB.out hw278_8), (pw_cell_below HB.out hw278_9), (pw_cell_below HB.out hw278_10), (pw_cell_below HB.out hw278_11)⟩ (fun hHeld => ?_); refine with_tabW tithebarnref24_add.tab2 tithebarnref24_add.bits2 (fun HT_ HW_ => ?_)
      generalize wr.drew = w8 at BK277 HB hx278_0 hx278_1 hx278_10 hx278_11 hx278_2 hx278_3 hx278_4 hx278_5 hx278_6 hx278_7 hx278_8 hx278_9 hHeld ⊢
      refine pure_ (i := 0) (N := some 7) (v := ?_) (a' := ?_) #[true, false, false, false, false, false, false, false, false, false, false, false, false, false] rfl rfl (any_of HT_.out (by kernel_rfl)) (fun _ _ _ h => h) (Or.inl ⟨by rfl, ?_⟩) ?_ ?_
      rotate_left
      ·intro w'
       go_simp
       with_reducible rfl
      rotate_left
      ·simp only [Act.put, List.setIfInBounds_toArray, List.set_cons_zero, List.set_cons_succ, i64_w, i32_w]
       rfl
      refine pure_ (i := 1) (N := some 8) (v := ?_) (a' := ?_) #[true, true, false, false, false, false, false, false, false, false, false, false, false, false] rfl rfl (any_of HT_.out (by kernel_rfl)) (fun _ _ _ h => h) (Or.inl ⟨by rfl, ?_⟩) ?_ ?_
      rotate_left
      ·intro w'
       go_simp
       with_reducible rfl
      rotate_left
      ·simp only [Act.put, List.setIfInBounds_toArray, List.set_cons_zero, List.set_cons_succ, i64_w, i32_w]
       rfl
      refine pure_ (i := 2) (N := some 9) (v := ?_) (a' := ?_) #[true, true, true, false, false, false, false, false, false, false, false, false, false, false] rfl rfl (any_of HT_.out (by kernel_rfl)) (fun _ _ _ h => h) (Or.inl ⟨by rfl, ?_⟩) ?_ ?_
      rotate_left
      ·intro w'
       go_simp
       with_reducible rfl
      rotate_left
      ·simp only [Act.put, List.setIfInBounds_toArray, List.set_cons_zero, List.set_cons_succ, i64_w, i32_w]
       rfl
      refine pure_ (i := 3) (N := some 10) (v := ?_) (a' := ?_) #[true, true, true, true, false, false, false, false, false, false, false, false, false, false] rfl rfl (any_of HT_.out (by kernel_rfl)) (fun _ _ _ h => h) (Or.inl ⟨by rfl, ?_⟩) ?_ ?_
      rotate_left
      ·intro w'
       go_simp
       with_reducible rfl
      rotate_left
      ·simp only [Act.put, List.setIfInBounds_toArray, List.set_cons_zero, List.set_cons_succ, i64_w, i32_w]
       rfl
      refine pure_ (i := 4) (N := some 11) (v := ?_) (a' := ?_) #[true, true, true, true, true, false, false, false, false, false, false, false, false, false] rfl rfl (any_of HT_.out (by kernel_rfl)) (fun _ _ _ h => h) (Or.inl ⟨by rfl, ?_⟩) ?_ ?_
      rotate_left
      ·intro w'
       go_simp
       with_reducible rfl
      rotate_left
      ·simp only [Act.put, List.setIfInBounds_toArray, List.set_cons_zero, List.set_cons_succ, i64_w, i32_w]
       rfl
      refine pure_ (i := 5) (N := some 12) (v := ?_) (a' := ?_) #[true, true, true, true, true, true, false, false, false, false, false, false, false, false] rfl rfl (any_of HT_.out (by kernel_rfl)) (fun _ _ _ h => h) (Or.inl ⟨by rfl, ?_⟩) ?_ ?_
      rotate_left
      ·intro w'
       go_simp
       with_reducible rfl
      rotate_left
      ·simp only [Act.put, List.setIfInBounds_toArray, List.set_cons_zero, List.set_cons_succ, i64_w, i32_w]
       rfl
      refine pure_ (i := 6) (N := some 13) (v := ?_) (a' := ?_) #[true, true, true, true, true, true, true, false, false, false, false, false, false, false] rfl rfl (any_of HT_.out (by kernel_rfl)) (fun _ _ _ h => h) (Or.inl ⟨by rfl, ?_⟩) ?_ ?_
      rotate_left
      ·intro w'
       go_simp
       with_reducible rfl
      rotate_left
      ·simp only [Act.put, List.setIfInBounds_toArray, List.set_cons_zero, List.set_cons_succ, i64_w, i32_w]
       rfl
      refine pure_ (i := 7) (N := some 14) (v := ?_) (a' := ?_) #[true, true, true, true, true, true, true, true, false, false, false, false, false, false] rfl rfl (any_of HT_.out (by kernel_rfl)) (fun _ _ _ h => h) (Or.inl ⟨by rfl, ?_⟩) ?_ ?_
      rotate_left
      ·intro w'
       go_simp
       with_reducible rfl
      rotate_left
      ·simp only [Act.put, List.setIfInBounds_toArray, List.set_cons_zero, List.set_cons_succ, i64_w, i32_w]
       rfl
      refine pure_ (i := 8) (N := some 15) (v := ?_) (a' := ?_) #[true, true, true, true, true, true, true, true, true, false, false, false, false, false] rfl rfl (any_of HT_.out (by kernel_rfl)) (fun _ _ _ h => h) (Or.inl ⟨by rfl, ?_⟩) ?_ ?_
      rotate_left
      ·intro w'
       go_simp
       with_reducible rfl
      rotate_left
      ·simp only [Act.put, List.setIfInBounds_toArray, List.set_cons_zero, List.set_cons_succ, i64_w, i32_w]
       rfl
      refine pure_ (i := 10) (N := some 17) (v := ?_) (a' := ?_) #[true, true, true, true, true, true, true, true, true, false, true, false, false, false] rfl rfl (any_of HT_.out (by kernel_rfl)) (fun _ _ _ h => h) (Or.inl ⟨by rfl, ?_⟩) ?_ ?_
      rotate_left
      ·intro w'
       go_simp
       with_reducible rfl
      rotate_left
      ·simp only [Act.put, List.setIfInBounds_toArray, List.set_cons_zero, List.set_cons_succ, i64_w, i32_w]
       rfl
      refine take_ (i := 9) (N := some 16) (v := ?_) (a' := ?_) #[true, true, true, true, true, true, true, true, true, true, true, false, false, false] rfl rfl (take_ofW HT_.out HW_.out (by kernel_rfl)) (fun _ _ _ h => h) (Or.inl ⟨by rfl, ?_⟩) hHeld ?_ ?_
      rotate_left
      ·rintro w' ⟨s0, s1, s2, s3, s4, s5, s6, s7, s8, s9, s10, s11, s12, s13, s14, s15, s16, s17, s18, s19, s20, s21, s22, s23⟩
       go_simp
       with_reducible rfl
      rotate_left
      ·simp only [Act.put, List.setIfInBounds_toArray, List.set_cons_zero, List.set_cons_succ, i64_w, i32_w]
       rfl
      refine take_ (i := 11) (N := some 18) (v := ?_) (a' := ?_) #[true, true, true, true, true, true, true, true, true, true, true, true, false, false] rfl rfl (take_ofW HT_.out HW_.out (by kernel_rfl)) (fun _ _ _ h => h) (Or.inl ⟨by rfl, ?_⟩) hHeld ?_ ?_
      rotate_left
      ·rintro w' ⟨s0, s1, s2, s3, s4, s5, s6, s7, s8, s9, s10, s11, s12, s13, s14, s15, s16, s17, s18, s19, s20, s21, s22, s23⟩
       go_simp
       with_reducible rfl
      rotate_left
      ·simp only [Act.put, List.setIfInBounds_toArray, List.set_cons_zero, List.set_cons_succ, i64_w, i32_w]
       rfl
      refine one_ (i := 12) (N := some 19) #[true, true, true, true, true, true, true, true, true, true, true, true, true, false] rfl rfl (one_of HT_.out (by kernel_rfl)) (by decide) (fun K hK => ?_)
      refine goes_ Try.func50 (by kernel_rfl) rfl #[.agg #[.bool ((rd_T49 l0 x5_1).f0.f0), .int .i64 ((rd_T49 l0 x5_1).f0.f1), .string ((rd_T49 l0 x5_1).f0.f2)], .agg #[.bool a1_0, .int .i64 a1_1, .string a1_2]] (by rfl) rfl rfl (by (try simp only [List.map_toArray, List.map_cons, List.map_nil]); first | done | rfl | (simp only [List.length_drop, List.length_take]; rfl)) ?_
      with_reducible refine (tithebarnref02_Ahead_c.calls ((rd_T49 l0 x5_1).f0.f0) ((rd_T49 l0 x5_1).f0.f1) ((rd_T49 l0 x5_1).f0.f2) a1_0 a1_1 a1_2 t279 _ A7.out).mono ?_
      rintro e w9 ⟨rfl, hb⟩
      refine ⟨_, rfl, ?_⟩
      have n0_ := Aside0.mk (blk_below (g := gb277) (o := .cells #[.bool a1_0, .int .i64 a1_1, .string a1_2, .int .i64 a1_3, .int .i64 a1_4, .int .i64 a1_5, .bool a1_6, .int .i64 a1_7, .string a1_8, .bool a1_9, .int .i64 a1_10, .string a1_11] 49 (0, 0)) (by (with_reducible repeat (first | refine blk_drewN ?_ _ | refine blk_drew ?_ | refine blk_alloc ?_ _)); exact BK277.out) hb)
      have n1_ := Aside0.mk (below_step (by with_reducible repeat first | exact HB.out | apply below_alloc | apply pw_below_drewN | apply below_drew1 | refine below_set ?_ GE277.out) hb)
      clear BK277
      clear HB
      have BK277 := n0_
      have HB := n1_
      clear n0_ n1_
      (try clear hb)
      (try clear hb2)
      (try clear hk)
      (try clear hi)
      refine hK.out _ _ ⟨(blk_cell BK277.out 0).trans rfl, (blk_cell BK277.out 1).trans rfl, (blk_cell BK277.out 2).trans rfl, (blk_cell BK277.out 3).trans rfl, (blk_cell BK277.out 4).trans rfl, (blk_cell BK277.out 5).trans rfl, (blk_cell BK277.out 6).trans rfl, (blk_cell BK277.out 7).trans rfl, (blk_cell BK277.out 8).trans rfl, (blk_cell BK277.out 9).trans rfl, (blk_cell BK277.out 10).trans rfl, (blk_cell BK277.out 11).trans rfl, (pw_cell_below HB.out hw278_0), (pw_cell_below HB.out hw278_1), (pw_cell_below HB.out hw278_2), (pw_cell_below HB.out hw278_3), (pw_cell_below HB.out hw278_4), (pw_cell_below HB.out hw278_5), (pw_cell_below HB.out hw278_6), (pw_cell_below HB.out hw278_7), (pw_cell_below HB.out hw278_8), (pw_cell_below HB.out hw278_9), (pw_cell_below HB.out hw278_10), (pw_cell_below HB.out hw278_11)⟩ (fun hHeld => ?_)
      clear hK K
      refine norm_ (a' := ?_) ?_ ?_
      rotate_left
      ·show Act.put _ (some 19) _ = _
       simp only [Act.put, List.setIfInBounds_toArray, List.set_cons_zero, List.set_cons_succ, i64_w, i32_w]
       rfl
      refine pure_ (i := 13) (N := some 20) (v := ?_) (a' := ?_) #[true, true, true, true, true, true, true, true, true, true, true, true, true, true] rfl rfl (any_of HT_.out (by kernel_rfl)) (fun _ _ _ h => h) (Or.inl ⟨by rfl, ?_⟩) ?_ ?_
      rotate_left
      ·intro w'
       go_simp
       with_reducible rfl
      rotate_left
      ·simp only [Act.put, List.setIfInBounds_toArray, List.set_cons_zero, List.set_cons_succ, i64_w, i32_w]
       rfl
      refine done_ (done_of HT_.out (by kernel_rfl)) ?_
      try go_wp2
      go_meet
      case rel => exact ⟨_, (t279), (by first | rfl | (simp; done) | (simp [*]; done)), H', ⟨by have := HK1.out; first | omega | exact Nat.le_refl _⟩, ⟨by (with_reducible repeat (first | refine blk_drewN ?_ _ | refine blk_drew ?_ | refine blk_alloc ?_ _)); exact BK277.out⟩, ⟨by repeat (first | (with_reducible first | exact HB.out | apply below_alloc | apply pw_below_drewN | apply below_drew1 | refine below_set ?_ GE277.out) | exact HB.out)⟩⟩
     ·rw [if_neg c6] at H
      exact absurd H (by simp)
    ·rw [if_neg c5] at H
     have c5b0 : decide (x5_1 < (l0.length : Int)) = false := decide_eq_false c5
     clear c5
     (first | rw [c5b0] | (simp only [i64_w, i32_w]; rw [c5b0]) | skip)
     have H' := Aside0.mk H
     clear H
     try go_wp2
     have n0_ := Aside0.mk (blk_drew BK277.out)
     have n1_ := Aside0.mk (below_drew1 HB.out)
     clear BK277
     clear HB
     have BK277 := n0_
     have HB := n1_
     clear n0_ n1_
     refine start_ (n := 14) (S := fun w' => True) (ds := []) #[false, false, false, false, false, false, false, false, false, false, false, false, false, false] (by kernel_rfl) rfl rfl trivial (fun hHeld => ?_); refine with_tabW tithebarnref24_add.tab2 tithebarnref24_add.bits2 (fun HT_ HW_ => ?_)
     generalize wr.drew = w10 at BK277 HB hHeld ⊢
     refine pure_ (i := 0) (N := some 7) (v := ?_) (a' := ?_) #[true, false, false, false, false, false, false, false, false, false, false, false, false, false] rfl rfl (any_of HT_.out (by kernel_rfl)) (fun _ _ _ h => h) (Or.inl ⟨by rfl, ?_⟩) ?_ ?_
     rotate_left
     ·intro w'
      go_simp
      with_reducible rfl
     rotate_left
     ·simp only [Act.put, List.setIfInBounds_toArray, List.set_cons_zero, List.set_cons_succ, i64_w, i32_w]
      rfl
     refine pure_ (i := 1) (N := some 8) (v := ?_) (a' := ?_) #[true, true, false, false, false, false, false, false, false, false, false, false, false, false] rfl rfl (any_of HT_.out (by kernel_rfl)) (fun _ _ _ h => h) (Or.inl ⟨by rfl, ?_⟩) ?_ ?_
     rotate_left
     ·intro w'
      go_simp
      with_reducible rfl
     rotate_left
     ·simp only [Act.put, List.setIfInBounds_toArray, List.set_cons_zero, List.set_cons_succ, i64_w, i32_w]
      rfl
     refine pure_ (i := 2) (N := some 9) (v := ?_) (a' := ?_) #[true, true, true, false, false, false, false, false, false, false, false, false, false, false] rfl rfl (any_of HT_.out (by kernel_rfl)) (fun _ _ _ h => h) (Or.inl ⟨by rfl, ?_⟩) ?_ ?_
     rotate_left
     ·intro w'
      go_simp
      with_reducible rfl
     rotate_left
     ·simp only [Act.put, List.setIfInBounds_toArray, List.set_cons_zero, List.set_cons_succ, i64_w, i32_w]
      rfl
     refine pure_ (i := 3) (N := some 10) (v := ?_) (a' := ?_) #[true, true, true, true, false, false, false, false, false, false, false, false, false, false] rfl rfl (any_of HT_.out (by kernel_rfl)) (fun _ _ _ h => h) (Or.inl ⟨by rfl, ?_⟩) ?_ ?_
     rotate_left
     ·intro w'
      go_simp
      with_reducible rfl
     rotate_left
     ·simp only [Act.put, List.setIfInBounds_toArray, List.set_cons_zero, List.set_cons_succ, i64_w, i32_w]
      rfl
     refine pure_ (i := 4) (N := some 11) (v := ?_) (a' := ?_) #[true, true, true, true, true, false, false, false, false, false, false, false, false, false] rfl rfl (any_of HT_.out (by kernel_rfl)) (fun _ _ _ h => h) (Or.inl ⟨by rfl, ?_⟩) ?_ ?_
     rotate_left
     ·intro w'
      go_simp
      with_reducible rfl
     rotate_left
     ·simp only [Act.put, List.setIfInBounds_toArray, List.set_cons_zero, List.set_cons_succ, i64_w, i32_w]
      rfl
     refine pure_ (i := 5) (N := some 12) (v := undef) (a' := ?_) #[true, true, true, true, true, true, false, false, false, false, false, false, false, false] rfl rfl (any_of HT_.out (by kernel_rfl)) (fun _ _ _ h => h) (Or.inr ⟨by rfl, rfl⟩) ?_ ?_
     rotate_left
     ·simp only [Act.put, List.setIfInBounds_toArray, List.set_cons_zero, List.set_cons_succ, i64_w, i32_w]
      rfl
     refine pure_ (i := 6) (N := some 13) (v := undef) (a' := ?_) #[true, true, true, true, true, true, true, false, false, false, false, false, false, false] rfl rfl (any_of HT_.out (by kernel_rfl)) (fun _ _ _ h => h) (Or.inr ⟨by rfl, rfl⟩) ?_ ?_
     rotate_left
     ·simp only [Act.put, List.setIfInBounds_toArray, List.set_cons_zero, List.set_cons_succ, i64_w, i32_w]
      rfl
     refine pure_ (i := 7) (N := some 14) (v := undef) (a' := ?_) #[true, true, true, true, true, true, true, true, false, false, false, false, false, false] rfl rfl (any_of HT_.out (by kernel_rfl)) (fun _ _ _ h => h) (Or.inr ⟨by rfl, rfl⟩) ?_ ?_
     rotate_left
     ·simp only [Act.put, List.setIfInBounds_toArray, List.set_cons_zero, List.set_cons_succ, i64_w, i32_w]
      rfl
     refine pure_ (i := 8) (N := some 15) (v := undef) (a' := ?_) #[true, true, true, true, true, true, true, true, true, false, false, false, false, false] rfl rfl (any_of HT_.out (by kernel_rfl)) (fun _ _ _ h => h) (Or.inr ⟨by rfl, rfl⟩) ?_ ?_
     rotate_left
     ·simp only [Act.put, List.setIfInBounds_toArray, List.set_cons_zero, List.set_cons_succ, i64_w, i32_w]
      rfl
     refine pure_ (i := 9) (N := some 16) (v := undef) (a' := ?_) #[true, true, true, true, true, true, true, true, true, true, false, false, false, false] rfl rfl (any_of HT_.out (by kernel_rfl)) (fun _ _ _ h => h) (Or.inr ⟨by rfl, rfl⟩) ?_ ?_
     rotate_left
     ·simp only [Act.put, List.setIfInBounds_toArray, List.set_cons_zero, List.set_cons_succ, i64_w, i32_w]
      rfl
     refine pure_ (i := 10) (N := some 17) (v := undef) (a' := ?_) #[true, true, true, true, true, true, true, true, true, true, true, false, false, false] rfl rfl (any_of HT_.out (by kernel_rfl)) (fun _ _ _ h => h) (Or.inr ⟨by rfl, rfl⟩) ?_ ?_
     rotate_left
     ·simp only [Act.put, List.setIfInBounds_toArray, List.set_cons_zero, List.set_cons_succ, i64_w, i32_w]
      rfl
     refine pure_ (i := 11) (N := some 18) (v := undef) (a' := ?_) #[true, true, true, true, true, true, true, true, true, true, true, true, false, false] rfl rfl (any_of HT_.out (by kernel_rfl)) (fun _ _ _ h => h) (Or.inr ⟨by rfl, rfl⟩) ?_ ?_
     rotate_left
     ·simp only [Act.put, List.setIfInBounds_toArray, List.set_cons_zero, List.set_cons_succ, i64_w, i32_w]
      rfl
     refine pure_ (i := 12) (N := some 19) (v := undef) (a' := ?_) #[true, true, true, true, true, true, true, true, true, true, true, true, true, false] rfl rfl (any_of HT_.out (by kernel_rfl)) (fun _ _ _ h => h) (Or.inr ⟨by rfl, rfl⟩) ?_ ?_
     rotate_left
     ·simp only [Act.put, List.setIfInBounds_toArray, List.set_cons_zero, List.set_cons_succ, i64_w, i32_w]
      rfl
     refine pure_ (i := 13) (N := some 20) (v := ?_) (a' := ?_) #[true, true, true, true, true, true, true, true, true, true, true, true, true, true] rfl rfl (any_of HT_.out (by kernel_rfl)) (fun _ _ _ h => h) (Or.inl ⟨by rfl, ?_⟩) ?_ ?_
     rotate_left
     ·intro w'
      go_simp
      with_reducible rfl
     rotate_left
     ·simp only [Act.put, List.setIfInBounds_toArray, List.set_cons_zero, List.set_cons_succ, i64_w, i32_w]
      rfl
     refine done_ (done_of HT_.out (by kernel_rfl)) ?_
     try go_wp2
     go_meet
     case rel => exact ⟨_, (false), (by first | rfl | (simp; done) | (simp [*]; done)), H', ⟨by have := HK1.out; first | omega | exact Nat.le_refl _⟩, ⟨by (with_reducible repeat (first | refine blk_drewN ?_ _ | refine blk_drew ?_ | refine blk_alloc ?_ _)); exact BK277.out⟩, ⟨by repeat (first | (with_reducible first | exact HB.out | apply below_alloc | apply pw_below_drewN | apply below_drew1 | refine below_set ?_ GE277.out) | exact HB.out)⟩⟩
   case rest =>
    clear HC4
    try clear p2
    try clear q2
    try clear hx2
    try clear c5
    try clear c5b0
    try clear c6
    try clear c6b0
    try clear hx278_0 hx278_1
    try clear hx278_10
    try clear hx278_11
    try clear hx278_2
    try clear hx278_3
    try clear hx278_4
    try clear hx278_5
    try clear hx278_6
    try clear hx278_7
    try clear hx278_8
    try clear hx278_9
    try clear p2
    try clear p278
    try clear q278
    obtain ⟨kq, x20_3, rfl, HA, HJ3, BK277, HB⟩ := hcut
    cases kq with
    | zero => exact absurd HA.out (by simp [tithebarnref24_add.j1])
    | succ kj3 =>
     have H := HA.out
     clear HA
     simp only [tithebarnref24_add.j1] at H
     by_cases c11 : x20_3 = true
     ·subst c11
      have H1 : (tithebarnref24_add.l0 kj3 l0 (wrap64 (x5_1 + 1)) a1_0 a1_1 a1_2 a1_3 a1_4 a1_5 a1_6 a1_7 a1_8 a1_9 a1_10 a1_11) = some r := by rw [if_pos rfl] at H; exact H
      clear H
      have H := H1
      clear H1
      have H' := Aside0.mk H
      clear H
      go_wp2
      go_roundg kj3
      case measure => have := HK1.out; have := HJ3.out; omega
      case rel => exact ⟨(wrap64 (x5_1 + 1)), (by first | rfl | (simp; done) | (simp [*]; done)), H', ⟨by have := HK1.out; have := HJ3.out; omega⟩, ⟨by (with_reducible repeat (first | refine blk_drewN ?_ _ | refine blk_drew ?_ | refine blk_alloc ?_ _)); exact BK277.out⟩, ⟨by repeat (first | (with_reducible first | exact HB.out | apply below_alloc | apply pw_below_drewN | apply below_drew1 | refine below_set ?_ GE277.out) | exact HB.out)⟩⟩
     ·replace c11 := Bool.eq_false_iff.mpr c11
      subst c11
      have H1 : (if ([] : List (S49)).length + l0.length < 1172812402961 then ((some (([] : List (S49)) ++ l0 : List (S49))).bind fun y280 => (if x5_1 < (l0.length : Int) then (if 0 ≤ x5_1 then ((tithebarnref02_Compare_c.f ((rd_T49 l0 x5_1).f0.f0) ((rd_T49 l0 x5_1).f0.f1) ((rd_T49 l0 x5_1).f0.f2) a1_0 a1_1 a1_2).bind fun t284 => (tithebarnref24_add.j2 kj3 l0 x5_1 y280 (t284 == 0) a1_0 a1_1 a1_2 a1_3 a1_4 a1_5 a1_6 a1_7 a1_8 a1_9 a1_10 a1_11)) else (none)) else (tithebarnref24_add.j2 kj3 l0 x5_1 y280 false a1_0 a1_1 a1_2 a1_3 a1_4 a1_5 a1_6 a1_7 a1_8 a1_9 a1_10 a1_11))) else (none)) = some r := by rw [if_neg (show ¬ (false = true) by decide)] at H; exact H
      clear H
      have H := H1
      clear H1
      by_cases c12 : ([] : List (S49)).length + l0.length < 1172812402961
      ·rw [if_pos c12] at H
       have LMc12 := Aside0.mk c12
       clear c12
       obtain ⟨y280, hy280⟩ : ∃ y_ : List (S49), y_ = (([] : List (S49)) ++ l0) := ⟨_, rfl⟩
       replace H : (if x5_1 < (l0.length : Int) then (if 0 ≤ x5_1 then ((tithebarnref02_Compare_c.f ((rd_T49 l0 x5_1).f0.f0) ((rd_T49 l0 x5_1).f0.f1) ((rd_T49 l0 x5_1).f0.f2) a1_0 a1_1 a1_2).bind fun t284 => (tithebarnref24_add.j2 kj3 l0 x5_1 y280 (t284 == 0) a1_0 a1_1 a1_2 a1_3 a1_4 a1_5 a1_6 a1_7 a1_8 a1_9 a1_10 a1_11)) else (none)) else (tithebarnref24_add.j2 kj3 l0 x5_1 y280 false a1_0 a1_1 a1_2 a1_3 a1_4 a1_5 a1_6 a1_7 a1_8 a1_9 a1_10 a1_11)) = some r := by first | (rw [hy280]; with_reducible exact H) | (have H2_ := (Option.bind_some _ _).symm.trans H; rw [hy280]; with_reducible exact H2_) | (have H2_ := (Option.bind_some _ _).symm.trans H; with_reducible exact H2_) | with_reducible exact H | (rw [hy280]; exact H) | exact H
       have Ny280 := Aside0.mk hy280
       clear hy280
       have HC13 := Aside0.mk H
       clear H
       go_upto_region 5 with (first | ((with_reducible refine gate_builtin (b := .append) (xs := #[.const (.slice none 0 0), .tmp 23]) rfl ?_); at_builtin; refine Kd.R_append_rows k49 (w0 := w) w.heap.size rfl (.const (.slice none 0 0)) (.tmp 23) 44 49 (.agg #[(.bool false), (.int .i64 0), (.string ⟨#[]⟩), (.int .i64 0), (.int .i64 0), (.int .i64 0), (.bool false), (.int .i64 0), (.string ⟨#[]⟩), (.bool false), (.int .i64 0), (.string ⟨#[]⟩)]) 120 rfl Try.underlying44 info49 rfl (by decide) (by omega) (.slice none 0 0) ([] : List (S49)) l0 _ _ _ (fun k_ => k_ ≠ gb277) (fun _ => False) rfl rfl ?aO ?aR (fun _ _ h => h) (fun _ h => h.elim) ?aF ?aB ?aS ?aL ?_; (case aR => repeat (first | exact (Kd.C_below HR0.out HB.out) | (with_reducible refine Kd.C_alloc ?_ _) | (with_reducible refine Kd.C_drewN ?_ _) | (with_reducible refine Kd.C_drew ?_))); (case aB => exact (by with_reducible repeat first | exact HB.out | apply below_alloc | apply pw_below_drewN | apply below_drew1 | refine below_set ?_ GE277.out)); (case aF => exact (fun k_ hk => Kd.freshB (g := gb277) (o := .cells #[.bool a1_0, .int .i64 a1_1, .string a1_2, .int .i64 a1_3, .int .i64 a1_4, .int .i64 a1_5, .bool a1_6, .int .i64 a1_7, .string a1_8, .bool a1_9, .int .i64 a1_10, .string a1_11] 49 (0, 0)) (by (with_reducible repeat (first | refine blk_drewN ?_ _ | refine blk_drew ?_ | refine blk_alloc ?_ _)); exact BK277.out) k_ hk)); (case aO => exact ((Kd.R_nil _ _ _ _ (fun k_ => k_ ≠ gb277)))); (case aS => exact (below_size (by with_reducible repeat first | exact HB.out | apply below_alloc | apply pw_below_drewN | apply below_drew1 | refine below_set ?_ GE277.out))); (case aL => have := LMc12.out; omega); intro v281 w14 ho hb hg hat; rw [← Ny280.out] at ho; have n0_ := Aside0.mk (blk_grown (g := gb277) (o := .cells #[.bool a1_0, .int .i64 a1_1, .string a1_2, .int .i64 a1_3, .int .i64 a1_4, .int .i64 a1_5, .bool a1_6, .int .i64 a1_7, .string a1_8, .bool a1_9, .int .i64 a1_10, .string a1_11] 49 (0, 0)) (by (with_reducible repeat (first | refine blk_drewN ?_ _ | refine blk_drew ?_ | refine blk_alloc ?_ _)); exact BK277.out) hg (by simp [Value.ownBlock])); have n1_ := Aside0.mk (hb); have n2_ := Aside0.mk (ho); clear BK277; clear HB; have BK277 := n0_; have HB := n1_; have HO282 := n2_; clear n0_ n1_ n2_; clear ho hb hg hat))
       (try simp only [Act.put, List.setIfInBounds_toArray, List.set_cons_zero, List.set_cons_succ])
       go_cut [39] (fun v39 wc => ∃ (kq : Nat) (x39_12 : Bool), v39 = .bool x39_12 ∧ Aside0 (tithebarnref24_add.j2 kq l0 x5_1 y280 x39_12 a1_0 a1_1 a1_2 a1_3 a1_4 a1_5 a1_6 a1_7 a1_8 a1_9 a1_10 a1_11 = some r) ∧ Aside0 (kq ≤ kj3) ∧ Aside0 (Kd.R k49 49 wc w.heap.size (fun k_ => k_ ≠ gb277) v281 y280) ∧ Aside0 (wc.heap[gb277]? = some (.cells #[.bool a1_0, .int .i64 a1_1, .string a1_2, .int .i64 a1_3, .int .i64 a1_4, .int .i64 a1_5, .bool a1_6, .int .i64 a1_7, .string a1_8, .bool a1_9, .int .i64 a1_10, .string a1_11] 49 (0, 0))) ∧ Aside0 (Below w.heap.size w wc))
       case first =>
        have H := HC13.out
        clear HC13
        by_cases c15 : x5_1 < (l0.length : Int)
        ·rw [if_pos c15] at H
         have c15b0 : decide (x5_1 < (l0.length : Int)) = true := decide_eq_true c15
         clear c15
         (first | rw [c15b0] | (simp only [i64_w, i32_w]; rw [c15b0]) | skip)
         by_cases c16 : 0 ≤ x5_1
         ·rw [if_pos c16] at H
          have c16b0 : decide (0 ≤ x5_1) = true := decide_eq_true c16
          clear c16
          replace H := Option.bind_eq_some_iff.mp H
          obtain ⟨t284, A170, H⟩ := H
          replace H : (tithebarnref24_add.j2 kj3 l0 x5_1 y280 (t284 == 0) a1_0 a1_1 a1_2 a1_3 a1_4 a1_5 a1_6 a1_7 a1_8 a1_9 a1_10 a1_11) = some r := H
          have A17 := Aside0.mk A170
          clear A170
          have H' := Aside0.mk H
          clear H
          try go_wp2
          have n0_ := Aside0.mk (Kd.R_drew HO282.out)
          have n1_ := Aside0.mk (blk_drew BK277.out)
          have n2_ := Aside0.mk (below_drew1 HB.out)
          clear HO282
          clear BK277
          clear HB
          have HO282 := n0_
          have BK277 := n1_
          have HB := n2_
          clear n0_ n1_ n2_
          have p283 : 0 ≤ (x5_1 : Int) := of_decide_eq_true (by with_reducible assumption)
          have q283 : x5_1 < (l0.length : Int) := of_decide_eq_true (by with_reducible assumption)
          obtain ⟨ad283, e283, hx283_0, hx283_1, hx283_2, hx283_3, hx283_4, hx283_5, hx283_6, hx283_7, hx283_8, hx283_9, hx283_10, hx283_11⟩ := at_T49 HR0.out x5_1 p283 q283
          have hw283_11 := hx283_11
          have hw283_10 := hx283_10
          have hw283_9 := hx283_9
          have hw283_8 := hx283_8
          have hw283_7 := hx283_7
          have hw283_6 := hx283_6
          have hw283_5 := hx283_5
          have hw283_4 := hx283_4
          have hw283_3 := hx283_3
          have hw283_2 := hx283_2
          have hw283_1 := hx283_1
          have hw283_0 := hx283_0
          cases e283
          replace hx283_0 := pw_cell_below HB.out hx283_0
          replace hx283_1 := pw_cell_below HB.out hx283_1
          replace hx283_2 := pw_cell_below HB.out hx283_2
          replace hx283_3 := pw_cell_below HB.out hx283_3
          replace hx283_4 := pw_cell_below HB.out hx283_4
          replace hx283_5 := pw_cell_below HB.out hx283_5
          replace hx283_6 := pw_cell_below HB.out hx283_6
          replace hx283_7 := pw_cell_below HB.out hx283_7
          replace hx283_8 := pw_cell_below HB.out hx283_8
          replace hx283_9 := pw_cell_below HB.out hx283_9
          replace hx283_10 := pw_cell_below HB.out hx283_10
          replace hx283_11 := pw_cell_below HB.out hx283_11
          replace p283 := eq_true p283
          replace q283 := eq_true q283
          refine start_ (n := 15) (S := fun w' => w'.cell? ⟨gb277, 0, none⟩ = some (.bool a1_0) ∧ w'.cell? ⟨gb277, 1, none⟩ = some (.int .i64 a1_1) ∧ w'.cell? ⟨gb277, 2, none⟩ = some (.string a1_2) ∧ w'.cell? ⟨gb277, 3, none⟩ = some (.int .i64 a1_3) ∧ w'.cell? ⟨gb277, 4, none⟩ = some (.int .i64 a1_4) ∧ w'.cell? ⟨gb277, 5, none⟩ = some (.int .i64 a1_5) ∧ w'.cell? ⟨gb277, 6, none⟩ = some (.bool a1_6) ∧ w'.cell? ⟨gb277, 7, none⟩ = some (.int .i64 a1_7) ∧ w'.cell? ⟨gb277, 8, none⟩ = some (.string a1_8) ∧ w'.cell? ⟨gb277, 9, none⟩ = some (.bool a1_9) ∧ w'.cell? ⟨gb277, 10, none⟩ = some (.int .i64 a1_10) ∧ w'.cell? ⟨gb277, 11, none⟩ = some (.string a1_11) ∧ w'.cell? (ad283.add ((x5_1).toNat * 12)) = some (.bool ((rd_T49 l0 x5_1).f0.f0)) ∧ w'.cell? ⟨(ad283.add ((x5_1).toNat * 12)).block, (ad283.add ((x5_1).toNat * 12)).off + 1, none⟩ = some (.int .i64 ((rd_T49 l0 x5_1).f0.f1)) ∧ w'.cell? ⟨(ad283.add ((x5_1).toNat * 12)).block, (ad283.add ((x5_1).toNat * 12)).off + 2, none⟩ = some (.string ((rd_T49 l0 x5_1).f0.f2)) ∧ w'.cell? ⟨(ad283.add ((x5_1).toNat * 12)).block, (ad283.add ((x5_1).toNat * 12)).off + 3, none⟩ = some (.int .i64 ((rd_T49 l0 x5_1).f1.f0)) ∧ w'.cell? ⟨(ad283.add ((x5_1).toNat * 12)).block, (ad283.add ((x5_1).toNat * 12)).off + 4, none⟩ = some (.int .i64 ((rd_T49 l0 x5_1).f1.f1)) ∧ w'.cell? ⟨(ad283.add ((x5_1).toNat * 12)).block, (ad283.add ((x5_1).toNat * 12)).off + 5, none⟩ = some (.int .i64 ((rd_T49 l0 x5_1).f1.f2)) ∧ w'.cell? ⟨(ad283.add ((x5_1).toNat * 12)).block, (ad283.add ((x5_1).toNat * 12)).off + 6, none⟩ = some (.bool ((rd_T49 l0 x5_1).f1.f3.f0)) ∧ w'.cell? ⟨(ad283.add ((x5_1).toNat * 12)).block, (ad283.add ((x5_1).toNat * 12)).off + 7, none⟩ = some (.int .i64 ((rd_T49 l0 x5_1).f1.f3.f1)) ∧ w'.cell? ⟨(ad283.add ((x5_1).toNat * 12)).block, (ad283.add ((x5_1).toNat * 12)).off + 8, none⟩ = some (.string ((rd_T49 l0 x5_1).f1.f3.f2)) ∧ w'.cell? ⟨(ad283.add ((x5_1).toNat * 12)).block, (ad283.add ((x5_1).toNat * 12)).off + 9, none⟩ = some (.bool ((rd_T49 l0 x5_1).f1.f4.f0)) ∧ w'.cell? ⟨(ad283.add ((x5_1).toNat * 12)).block, (ad283.add ((x5_1).toNat * 12)).off + 10, none⟩ = some (.int .i64 ((rd_T49 l0 x5_1).f1.f4.f1)) ∧ w'.cell? ⟨(ad283.add ((x5_1).toNat * 12)).block, (ad283.add ((x5_1).toNat * 12)).off + 11, none⟩ = some (.string ((rd_T49 l0 x5_1).f1.f4.f2))) (ds := []) #[false, false, false, false, false, false, false, false, false, false, false, false, false, false, false] (by kernel_rfl) rfl rfl ⟨(blk_cell BK277.out 0).trans rfl, (blk_cell BK277.out 1).trans rfl, (blk_cell BK277.out 2).trans rfl, (blk_cell BK277.out 3).trans rfl, (blk_cell BK277.out 4).trans rfl, (blk_cell BK277.out 5).trans rfl, (blk_cell BK277.out 6).trans rfl, (blk_cell BK277.out 7).trans rfl, (blk_cell BK277.out 8).trans rfl, (blk_cell BK277.out 9).trans rfl, (blk_cell BK277.out 10).trans rfl, (blk_cell BK277.out 11).trans rfl, (pw_cell_below HB.out hw283_0), (pw_cell_below HB.out hw283_1), (pw_cell_below HB.out hw283_2), (pw_cell_below HB.out hw283_3), (pw_cell_below HB.out hw283_4), (pw_cell_below HB.out hw283_5), (pw_cell_below HB.out hw283_6), (pw_cell_below HB.out hw283_7), (pw_cell_below HB.out hw283_8), (pw_cell_below HB.out hw283_9), (pw_cell_below HB.out hw283_10), (pw_cell_below HB.out hw283_11)⟩ (fun hHeld => ?_); refine with_tabW tithebarnref24_add.tab5 tithebarnref24_add.bits5 (fun HT_ HW_ => ?_)
          generalize w14.drew = w18 at HO282 BK277 HB hx283_0 hx283_1 hx283_10 hx283_11 hx283_2 hx283_3 hx283_4 hx283_5 hx283_6 hx283_7 hx283_8 hx283_9 hHeld ⊢
          refine pure_ (i := 0) (N := some 25) (v := ?_) (a' := ?_) #[true, false, false, false, false, false, false, false, false, false, false, false, false, false, false] rfl rfl (any_of HT_.out (by kernel_rfl)) (fun _ _ _ h => h) (Or.inl ⟨by rfl, ?_⟩) ?_ ?_
          rotate_left
          ·intro w'
           go_simp
           with_reducible rfl
          rotate_left
          ·simp only [Act.put, List.setIfInBounds_toArray, List.set_cons_zero, List.set_cons_succ, i64_w, i32_w]
           rfl
          refine pure_ (i := 1) (N := some 26) (v := ?_) (a' := ?_) #[true, true, false, false, false, false, false, false, false, false, false, false, false, false, false] rfl rfl (any_of HT_.out (by kernel_rfl)) (fun _ _ _ h => h) (Or.inl ⟨by rfl, ?_⟩) ?_ ?_
          rotate_left
          ·intro w'
           go_simp
           with_reducible rfl
          rotate_left
          ·simp only [Act.put, List.setIfInBounds_toArray, List.set_cons_zero, List.set_cons_succ, i64_w, i32_w]
           rfl
          refine pure_ (i := 2) (N := some 27) (v := ?_) (a' := ?_) #[true, true, true, false, false, false, false, false, false, false, false, false, false, false, false] rfl rfl (any_of HT_.out (by kernel_rfl)) (fun _ _ _ h => h) (Or.inl ⟨by rfl, ?_⟩) ?_ ?_
          rotate_left
          ·intro w'
           go_simp
           with_reducible rfl
          rotate_left
          ·simp only [Act.put, List.setIfInBounds_toArray, List.set_cons_zero, List.set_cons_succ, i64_w, i32_w]
           rfl
          refine pure_ (i := 3) (N := some 28) (v := ?_) (a' := ?_) #[true, true, true, true, false, false, false, false, false, false, false, false, false, false, false] rfl rfl (any_of HT_.out (by kernel_rfl)) (fun _ _ _ h => h) (Or.inl ⟨by rfl, ?_⟩) ?_ ?_
          rotate_left
          ·intro w'
           go_simp
           with_reducible rfl
          rotate_left
          ·simp only [Act.put, List.setIfInBounds_toArray, List.set_cons_zero, List.set_cons_succ, i64_w, i32_w]
           rfl
          refine pure_ (i := 4) (N := some 29) (v := ?_) (a' := ?_) #[true, true, true, true, true, false, false, false, false, false, false, false, false, false, false] rfl rfl (any_of HT_.out (by kernel_rfl)) (fun _ _ _ h => h) (Or.inl ⟨by rfl, ?_⟩) ?_ ?_
          rotate_left
          ·intro w'
           go_simp
           with_reducible rfl
          rotate_left
          ·simp only [Act.put, List.setIfInBounds_toArray, List.set_cons_zero, List.set_cons_succ, i64_w, i32_w]
           rfl
          refine pure_ (i := 5) (N := some 30) (v := ?_) (a' := ?_) #[true, true, true, true, true, true, false, false, false, false, false, false, false, false, false] rfl rfl (any_of HT_.out (by kernel_rfl)) (fun _ _ _ h => h) (Or.inl ⟨by rfl, ?_⟩) ?_ ?_
          rotate_left
          ·intro w'
           go_simp
           with_reducible rfl
          rotate_left
          ·simp only [Act.put, List.setIfInBounds_toArray, List.set_cons_zero, List.set_cons_succ, i64_w, i32_w]
           rfl
          refine pure_ (i := 6) (N := some 31) (v := ?_) (a' := ?_) #[true, true, true, true, true, true, true, false, false, false, false, false, false, false, false] rfl rfl (any_of HT_.out (by kernel_rfl)) (fun _ _ _ h => h) (Or.inl ⟨by rfl, ?_⟩) ?_ ?_
          rotate_left
          ·intro w'
           go_simp
           with_reducible rfl
          rotate_left
          ·simp only [Act.put, List.setIfInBounds_toArray, List.set_cons_zero, List.set_cons_succ, i64_w, i32_w]
           rfl
          refine pure_ (i := 7) (N := some 32) (v := ?_) (a' := ?_) #[true, true, true, true, true, true, true, true, false, false, false, false, false, false, false] rfl rfl (any_of HT_.out (by kernel_rfl)) (fun _ _ _ h => h) (Or.inl ⟨by rfl, ?_⟩) ?_ ?_
          rotate_left
          ·intro w'
           go_simp
           with_reducible rfl
          rotate_left
          ·simp only [Act.put, List.setIfInBounds_toArray, List.set_cons_zero, List.set_cons_succ, i64_w, i32_w]
           rfl
          refine pure_ (i := 8) (N := some 33) (v := ?_) (a' := ?_) #[true, true, true, true, true, true, true, true, true, false, false, false, false, false, false] rfl rfl (any_of HT_.out (by kernel_rfl)) (fun _ _ _ h => h) (Or.inl ⟨by rfl, ?_⟩) ?_ ?_
          rotate_left
          ·intro w'
           go_simp
           with_reducible rfl
          rotate_left
          ·simp only [Act.put, List.setIfInBounds_toArray, List.set_cons_zero, List.set_cons_succ, i64_w, i32_w]
           rfl
          refine pure_ (i := 10) (N := some 35) (v := ?_) (a' := ?_) #[true, true, true, true, true, true, true, true, true, false, true, false, false, false, false] rfl rfl (any_of HT_.out (by kernel_rfl)) (fun _ _ _ h => h) (Or.inl ⟨by rfl, ?_⟩) ?_ ?_
          rotate_left
          ·intro w'
           go_simp
           with_reducible rfl
          rotate_left
          ·simp only [Act.put, List.setIfInBounds_toArray, List.set_cons_zero, List.set_cons_succ, i64_w, i32_w]
           rfl
          refine take_ (i := 9) (N := some 34) (v := ?_) (a' := ?_) #[true, true, true, true, true, true, true, true, true, true, true, false, false, false, false] rfl rfl (take_ofW HT_.out HW_.out (by kernel_rfl)) (fun _ _ _ h => h) (Or.inl ⟨by rfl, ?_⟩) hHeld ?_ ?_
          rotate_left
          ·rintro w' ⟨s0, s1, s2, s3, s4, s5, s6, s7, s8, s9, s10, s11, s12, s13, s14, s15, s16, s17, s18, s19, s20, s21, s22, s23⟩
           go_simp
           with_reducible rfl
          rotate_left
          ·simp only [Act.put, List.setIfInBounds_toArray, List.set_cons_zero, List.set_cons_succ, i64_w, i32_w]
           rfl
          refine take_ (i := 11) (N := some 36) (v := ?_) (a' := ?_) #[true, true, true, true, true, true, true, true, true, true, true, true, false, false, false] rfl rfl (take_ofW HT_.out HW_.out (by kernel_rfl)) (fun _ _ _ h => h) (Or.inl ⟨by rfl, ?_⟩) hHeld ?_ ?_
          rotate_left
          ·rintro w' ⟨s0, s1, s2, s3, s4, s5, s6, s7, s8, s9, s10, s11, s12, s13, s14, s15, s16, s17, s18, s19, s20, s21, s22, s23⟩
           go_simp
           with_reducible rfl
          rotate_left
          ·simp only [Act.put, List.setIfInBounds_toArray, List.set_cons_zero, List.set_cons_succ, i64_w, i32_w]
           rfl
          refine one_ (i := 12) (N := some 37) #[true, true, true, true, true, true, true, true, true, true, true, true, true, false, false] rfl rfl (one_of HT_.out (by kernel_rfl)) (by decide) (fun K hK => ?_)
          refine goes_ Try.func33 (by kernel_rfl) rfl #[.agg #[.bool ((rd_T49 l0 x5_1).f0.f0), .int .i64 ((rd_T49 l0 x5_1).f0.f1), .string ((rd_T49 l0 x5_1).f0.f2)], .agg #[.bool a1_0, .int .i64 a1_1, .string a1_2]] (by rfl) rfl rfl (by (try simp only [List.map_toArray, List.map_cons, List.map_nil]); first | done | rfl | (simp only [List.length_drop, List.length_take]; rfl)) ?_
          with_reducible refine (tithebarnref02_Compare_c.calls ((rd_T49 l0 x5_1).f0.f0) ((rd_T49 l0 x5_1).f0.f1) ((rd_T49 l0 x5_1).f0.f2) a1_0 a1_1 a1_2 t284 _ A17.out).mono ?_
          rintro e w19 ⟨rfl, hb⟩
          refine ⟨_, rfl, ?_⟩
          have n0_ := Aside0.mk (Kd.R_below (by (with_reducible repeat (first | apply Kd.R_alloc | apply Kd.R_drewN | apply Kd.R_drew)); exact HO282.out) hb)
          have n1_ := Aside0.mk (blk_below (g := gb277) (o := .cells #[.bool a1_0, .int .i64 a1_1, .string a1_2, .int .i64 a1_3, .int .i64 a1_4, .int .i64 a1_5, .bool a1_6, .int .i64 a1_7, .string a1_8, .bool a1_9, .int .i64 a1_10, .string a1_11] 49 (0, 0)) (by (with_reducible repeat (first | refine blk_drewN ?_ _ | refine blk_drew ?_ | refine blk_alloc ?_ _)); exact BK277.out) hb)
          have n2_ := Aside0.mk (below_step (by with_reducible repeat first | exact HB.out | apply below_alloc | apply pw_below_drewN | apply below_drew1 | refine below_set ?_ GE277.out) hb)
          clear HO282
          clear BK277
          clear HB
          have HO282 := n0_
          have BK277 := n1_
          have HB := n2_
          clear n0_ n1_ n2_
          (try clear hb)
          (try clear hb2)
          (try clear hk)
          (try clear hi)
          refine hK.out _ _ ⟨(blk_cell BK277.out 0).trans rfl, (blk_cell BK277.out 1).trans rfl, (blk_cell BK277.out 2).trans rfl, (blk_cell BK277.out 3).trans rfl, (blk_cell BK277.out 4).trans rfl, (blk_cell BK277.out 5).trans rfl, (blk_cell BK277.out 6).trans rfl, (blk_cell BK277.out 7).trans rfl, (blk_cell BK277.out 8).trans rfl, (blk_cell BK277.out 9).trans rfl, (blk_cell BK277.out 10).trans rfl, (blk_cell BK277.out 11).trans rfl, (pw_cell_below HB.out hw283_0), (pw_cell_below HB.out hw283_1), (pw_cell_below HB.out hw283_2), (pw_cell_below HB.out hw283_3), (pw_cell_below HB.out hw283_4), (pw_cell_below HB.out hw283_5), (pw_cell_below HB.out hw283_6), (pw_cell_below HB.out hw283_7), (pw_cell_below HB.out hw283_8), (pw_cell_below HB.out hw283_9), (pw_cell_below HB.out hw283_10), (pw_cell_below HB.out hw283_11)⟩ (fun hHeld => ?_)
          clear hK K
          refine norm_ (a' := ?_) ?_ ?_
          rotate_left
          ·show Act.put _ (some 37) _ = _
           simp only [Act.put, List.setIfInBounds_toArray, List.set_cons_zero, List.set_cons_succ, i64_w, i32_w]
           rfl
          refine pure_ (i := 13) (N := some 38) (v := ?_) (a' := ?_) #[true, true, true, true, true, true, true, true, true, true, true, true, true, true, false] rfl rfl (any_of HT_.out (by kernel_rfl)) (fun _ _ _ h => h) (Or.inl ⟨by rfl, ?_⟩) ?_ ?_
          rotate_left
          ·intro w'
           go_simp
           with_reducible rfl
          rotate_left
          ·simp only [Act.put, List.setIfInBounds_toArray, List.set_cons_zero, List.set_cons_succ, i64_w, i32_w]
           rfl
          refine pure_ (i := 14) (N := some 39) (v := ?_) (a' := ?_) #[true, true, true, true, true, true, true, true, true, true, true, true, true, true, true] rfl rfl (any_of HT_.out (by kernel_rfl)) (fun _ _ _ h => h) (Or.inl ⟨by rfl, ?_⟩) ?_ ?_
          rotate_left
          ·intro w'
           go_simp
           with_reducible rfl
          rotate_left
          ·simp only [Act.put, List.setIfInBounds_toArray, List.set_cons_zero, List.set_cons_succ, i64_w, i32_w]
           rfl
          refine done_ (done_of HT_.out (by kernel_rfl)) ?_
          try go_wp2
          go_meet
          case rel => exact ⟨_, ((t284 == 0)), (by first | rfl | (simp; done) | (simp [*]; done)), H', ⟨by have := HK1.out; have := HJ3.out; first | omega | exact Nat.le_refl _⟩, ⟨by (with_reducible repeat (first | apply Kd.R_alloc | apply Kd.R_drewN | apply Kd.R_drew)); exact HO282.out⟩, ⟨by (with_reducible repeat (first | refine blk_drewN ?_ _ | refine blk_drew ?_ | refine blk_alloc ?_ _)); exact BK277.out⟩, ⟨by repeat (first | (with_reducible first | exact HB.out | apply below_alloc | apply pw_below_drewN | apply below_drew1 | refine below_set ?_ GE277.out) | exact HB.out)⟩⟩
         ·rw [if_neg c16] at H
          exact absurd H (by simp)
        ·rw [if_neg c15] at H
         have c15b0 : decide (x5_1 < (l0.length : Int)) = false := decide_eq_false c15
         clear c15
         (first | rw [c15b0] | (simp only [i64_w, i32_w]; rw [c15b0]) | skip)
         have H' := Aside0.mk H
         clear H
         try go_wp2
         have n0_ := Aside0.mk (Kd.R_drew HO282.out)
         have n1_ := Aside0.mk (blk_drew BK277.out)
         have n2_ := Aside0.mk (below_drew1 HB.out)
         clear HO282
         clear BK277
         clear HB
         have HO282 := n0_
         have BK277 := n1_
         have HB := n2_
         clear n0_ n1_ n2_
         refine start_ (n := 15) (S := fun w' => True) (ds := []) #[false, false, false, false, false, false, false, false, false, false, false, false, false, false, false] (by kernel_rfl) rfl rfl trivial (fun hHeld => ?_); refine with_tabW tithebarnref24_add.tab5 tithebarnref24_add.bits5 (fun HT_ HW_ => ?_)
         generalize w14.drew = w20 at HO282 BK277 HB hHeld ⊢
         refine pure_ (i := 0) (N := some 25) (v := ?_) (a' := ?_) #[true, false, false, false, false, false, false, false, false, false, false, false, false, false, false] rfl rfl (any_of HT_.out (by kernel_rfl)) (fun _ _ _ h => h) (Or.inl ⟨by rfl, ?_⟩) ?_ ?_
         rotate_left
         ·intro w'
          go_simp
          with_reducible rfl
         rotate_left
         ·simp only [Act.put, List.setIfInBounds_toArray, List.set_cons_zero, List.set_cons_succ, i64_w, i32_w]
          rfl
         refine pure_ (i := 1) (N := some 26) (v := ?_) (a' := ?_) #[true, true, false, false, false, false, false, false, false, false, false, false, false, false, false] rfl rfl (any_of HT_.out (by kernel_rfl)) (fun _ _ _ h => h) (Or.inl ⟨by rfl, ?_⟩) ?_ ?_
         rotate_left
         ·intro w'
          go_simp
          with_reducible rfl
         rotate_left
         ·simp only [Act.put, List.setIfInBounds_toArray, List.set_cons_zero, List.set_cons_succ, i64_w, i32_w]
          rfl
         refine pure_ (i := 2) (N := some 27) (v := ?_) (a' := ?_) #[true, true, true, false, false, false, false, false, false, false, false, false, false, false, false] rfl rfl (any_of HT_.out (by kernel_rfl)) (fun _ _ _ h => h) (Or.inl ⟨by rfl, ?_⟩) ?_ ?_
         rotate_left
         ·intro w'
          go_simp
          with_reducible rfl
         rotate_left
         ·simp only [Act.put, List.setIfInBounds_toArray, List.set_cons_zero, List.set_cons_succ, i64_w, i32_w]
          rfl
         refine pure_ (i := 3) (N := some 28) (v := ?_) (a' := ?_) #[true, true, true, true, false, false, false, false, false, false, false, false, false, false, false] rfl rfl (any_of HT_.out (by kernel_rfl)) (fun _ _ _ h => h) (Or.inl ⟨by rfl, ?_⟩) ?_ ?_
         rotate_left
         ·intro w'
          go_simp
          with_reducible rfl
         rotate_left
         ·simp only [Act.put, List.setIfInBounds_toArray, List.set_cons_zero, List.set_cons_succ, i64_w, i32_w]
          rfl
         refine pure_ (i := 4) (N := some 29) (v := ?_) (a' := ?_) #[true, true, true, true, true, false, false, false, false, false, false, false, false, false, false] rfl rfl (any_of HT_.out (by kernel_rfl)) (fun _ _ _ h => h) (Or.inl ⟨by rfl, ?_⟩) ?_ ?_
         rotate_left
         ·intro w'
          go_simp
          with_reducible rfl
         rotate_left
         ·simp only [Act.put, List.setIfInBounds_toArray, List.set_cons_zero, List.set_cons_succ, i64_w, i32_w]
          rfl
         refine pure_ (i := 5) (N := some 30) (v := undef) (a' := ?_) #[true, true, true, true, true, true, false, false, false, false, false, false, false, false, false] rfl rfl (any_of HT_.out (by kernel_rfl)) (fun _ _ _ h => h) (Or.inr ⟨by rfl, rfl⟩) ?_ ?_
         rotate_left
         ·simp only [Act.put, List.setIfInBounds_toArray, List.set_cons_zero, List.set_cons_succ, i64_w, i32_w]
          rfl
         refine pure_ (i := 6) (N := some 31) (v := undef) (a' := ?_) #[true, true, true, true, true, true, true, false, false, false, false, false, false, false, false] rfl rfl (any_of HT_.out (by kernel_rfl)) (fun _ _ _ h => h) (Or.inr ⟨by rfl, rfl⟩) ?_ ?_
         rotate_left
         ·simp only [Act.put, List.setIfInBounds_toArray, List.set_cons_zero, List.set_cons_succ, i64_w, i32_w]
          rfl
         refine pure_ (i := 7) (N := some 32) (v := undef) (a' := ?_) #[true, true, true, true, true, true, true, true, false, false, false, false, false, false, false] rfl rfl (any_of HT_.out (by kernel_rfl)) (fun _ _ _ h => h) (Or.inr ⟨by rfl, rfl⟩) ?_ ?_
         rotate_left
         ·simp only [Act.put, List.setIfInBounds_toArray, List.set_cons_zero, List.set_cons_succ, i64_w, i32_w]
          rfl
         refine pure_ (i := 8) (N := some 33) (v := undef) (a' := ?_) #[true, true, true, true, true, true, true, true, true, false, false, false, false, false, false] rfl rfl (any_of HT_.out (by kernel_rfl)) (fun _ _ _ h => h) (Or.inr ⟨by rfl, rfl⟩) ?_ ?_
         rotate_left
         ·simp only [Act.put, List.setIfInBounds_toArray, List.set_cons_zero, List.set_cons_succ, i64_w, i32_w]
          rfl
         refine pure_ (i := 9) (N := some 34) (v := undef) (a' := ?_) #[true, true, true, true, true, true, true, true, true, true, false, false, false, false, false] rfl rfl (any_of HT_.out (by kernel_rfl)) (fun _ _ _ h => h) (Or.inr ⟨by rfl, rfl⟩) ?_ ?_
         rotate_left
         ·simp only [Act.put, List.setIfInBounds_toArray, List.set_cons_zero, List.set_cons_succ, i64_w, i32_w]
          rfl
         refine pure_ (i := 10) (N := some 35) (v := undef) (a' := ?_) #[true, true, true, true, true, true, true, true, true, true, true, false, false, false, false] rfl rfl (any_of HT_.out (by kernel_rfl)) (fun _ _ _ h => h) (Or.inr ⟨by rfl, rfl⟩) ?_ ?_
         rotate_left
         ·simp only [Act.put, List.setIfInBounds_toArray, List.set_cons_zero, List.set_cons_succ, i64_w, i32_w]
          rfl
         refine pure_ (i := 11) (N := some 36) (v := undef) (a' := ?_) #[true, true, true, true, true, true, true, true, true, true, true, true, false, false, false] rfl rfl (any_of HT_.out (by kernel_rfl)) (fun _ _ _ h => h) (Or.inr ⟨by rfl, rfl⟩) ?_ ?_
         rotate_left
         ·simp only [Act.put, List.setIfInBounds_toArray, List.set_cons_zero, List.set_cons_succ, i64_w, i32_w]
          rfl
         refine pure_ (i := 12) (N := some 37) (v := undef) (a' := ?_) #[true, true, true, true, true, true, true, true, true, true, true, true, true, false, false] rfl rfl (any_of HT_.out (by kernel_rfl)) (fun _ _ _ h => h) (Or.inr ⟨by rfl, rfl⟩) ?_ ?_
         rotate_left
         ·simp only [Act.put, List.setIfInBounds_toArray, List.set_cons_zero, List.set_cons_succ, i64_w, i32_w]
          rfl
         refine pure_ (i := 13) (N := some 38) (v := undef) (a' := ?_) #[true, true, true, true, true, true, true, true, true, true, true, true, true, true, false] rfl rfl (any_of HT_.out (by kernel_rfl)) (fun _ _ _ h => h) (Or.inr ⟨by rfl, rfl⟩) ?_ ?_
         rotate_left
         ·simp only [Act.put, List.setIfInBounds_toArray, List.set_cons_zero, List.set_cons_succ, i64_w, i32_w]
          rfl
         refine pure_ (i := 14) (N := some 39) (v := ?_) (a' := ?_) #[true, true, true, true, true, true, true, true, true, true, true, true, true, true, true] rfl rfl (any_of HT_.out (by kernel_rfl)) (fun _ _ _ h => h) (Or.inl ⟨by rfl, ?_⟩) ?_ ?_
         rotate_left
         ·intro w'
          go_simp
          with_reducible rfl
         rotate_left
         ·simp only [Act.put, List.setIfInBounds_toArray, List.set_cons_zero, List.set_cons_succ, i64_w, i32_w]
          rfl
         refine done_ (done_of HT_.out (by kernel_rfl)) ?_
         try go_wp2
         go_meet
         case rel => exact ⟨_, (false), (by first | rfl | (simp; done) | (simp [*]; done)), H', ⟨by have := HK1.out; have := HJ3.out; first | omega | exact Nat.le_refl _⟩, ⟨by (with_reducible repeat (first | apply Kd.R_alloc | apply Kd.R_drewN | apply Kd.R_drew)); exact HO282.out⟩, ⟨by (with_reducible repeat (first | refine blk_drewN ?_ _ | refine blk_drew ?_ | refine blk_alloc ?_ _)); exact BK277.out⟩, ⟨by repeat (first | (with_reducible first | exact HB.out | apply below_alloc | apply pw_below_drewN | apply below_drew1 | refine below_set ?_ GE277.out) | exact HB.out)⟩⟩
       case rest =>
        clear HC13
        try clear c1
        try clear p2
        try clear q2
        try clear hx2
        try clear c3
        try clear c5
        try clear c5b0
        try clear c6
        try clear c6b0
        try clear p6
        try clear c11
        try clear c12
        try clear c15
        try clear c15b0
        try clear c16
        try clear c16b0
        try clear hx278_0 hx278_1
        try clear hx278_10
        try clear hx278_11
        try clear hx278_2
        try clear hx278_3
        try clear hx278_4
        try clear hx278_5
        try clear hx278_6
        try clear hx278_7
        try clear hx278_8
        try clear hx278_9
        try clear hx283_0 hx283_1
        try clear hx283_10
        try clear hx283_11
        try clear hx283_2
        try clear hx283_3
        try clear hx283_4
        try clear hx283_5
        try clear hx283_6
        try clear hx283_7
        try clear hx283_8
        try clear hx283_9
        try clear p2
        try clear p278
        try clear p283
        try clear q2
        try clear q278
        try clear q283
        obtain ⟨kq, x39_12, rfl, HA, HJ12, HO_6, BK277, HB⟩ := hcut
        cases kq with
        | zero => exact absurd HA.out (by simp [tithebarnref24_add.j2])
        | succ kj12 =>
         have H := HA.out
         clear HA
         simp only [tithebarnref24_add.j2] at H
         by_cases c21 : x39_12 = true
         ·subst c21
          have H1 : (if 0 ≤ x5_1 then (if x5_1 < (l0.length : Int) then ((tithebarnref18_Join.f kj12 ((rd_T49 l0 x5_1).f1.f0) ((rd_T49 l0 x5_1).f1.f1) ((rd_T49 l0 x5_1).f1.f2) ((rd_T49 l0 x5_1).f1.f3.f0) ((rd_T49 l0 x5_1).f1.f3.f1) ((rd_T49 l0 x5_1).f1.f3.f2) ((rd_T49 l0 x5_1).f1.f4.f0) ((rd_T49 l0 x5_1).f1.f4.f1) ((rd_T49 l0 x5_1).f1.f4.f2) a1_3 a1_4 a1_5 a1_6 a1_7 a1_8 a1_9 a1_10 a1_11).bind fun bt286 => (if x5_1 < (y280.length : Int) then (some (y280.set (x5_1 : Int).toNat (⟨(⟨(rd_T49 y280 x5_1).f0.f0, (rd_T49 y280 x5_1).f0.f1, (rd_T49 y280 x5_1).f0.f2⟩ : S37), (⟨bt286.1, bt286.2.1, bt286.2.2.1, (⟨bt286.2.2.2.1, bt286.2.2.2.2.1, bt286.2.2.2.2.2.1⟩ : S37), (⟨bt286.2.2.2.2.2.2.1, bt286.2.2.2.2.2.2.2.1, bt286.2.2.2.2.2.2.2.2⟩ : S37)⟩ : S47)⟩ : S49))) else (none))) else (none)) else (none)) = some r := by rw [if_pos rfl] at H; exact H
          clear H
          have H := H1
          clear H1
          by_cases c22 : 0 ≤ x5_1
          ·rw [if_pos c22] at H
           have c22b0 : decide (0 ≤ x5_1) = true := decide_eq_true c22
           clear c22
           by_cases c23 : x5_1 < (l0.length : Int)
           ·rw [if_pos c23] at H
            have c23b0 : decide (x5_1 < (l0.length : Int)) = true := decide_eq_true c23
            clear c23
            replace H := Option.bind_eq_some_iff.mp H
            obtain ⟨⟨t286, t287, t288, t289, t290, t291, t292, t293, t294⟩, A240, H⟩ := H
            replace H : (if x5_1 < (y280.length : Int) then (some (y280.set (x5_1 : Int).toNat (⟨(⟨(rd_T49 y280 x5_1).f0.f0, (rd_T49 y280 x5_1).f0.f1, (rd_T49 y280 x5_1).f0.f2⟩ : S37), (⟨t286, t287, t288, (⟨t289, t290, t291⟩ : S37), (⟨t292, t293, t294⟩ : S37)⟩ : S47)⟩ : S49))) else (none)) = some r := H
            have A24 := Aside0.mk A240
            clear A240
            by_cases c25 : x5_1 < (y280.length : Int)
            ·rw [if_pos c25] at H
             have c25b0 : decide (x5_1 < (y280.length : Int)) = true := decide_eq_true c25
             clear c25
             obtain ⟨y295, hy295⟩ : ∃ y_ : List (S49), y_ = (y280.set (x5_1 : Int).toNat (⟨(⟨(rd_T49 y280 x5_1).f0.f0, (rd_T49 y280 x5_1).f0.f1, (rd_T49 y280 x5_1).f0.f2⟩ : S37), (⟨t286, t287, t288, (⟨t289, t290, t291⟩ : S37), (⟨t292, t293, t294⟩ : S37)⟩ : S47)⟩ : S49)) := ⟨_, rfl⟩
             replace H : (some y295) = some r := by first | (rw [hy295]; with_reducible exact H) | (have H2_ := (Option.bind_some _ _).symm.trans H; rw [hy295]; with_reducible exact H2_) | (have H2_ := (Option.bind_some _ _).symm.trans H; with_reducible exact H2_) | with_reducible exact H | (rw [hy295]; exact H) | exact H
             have Ny295 := Aside0.mk hy295
             clear hy295
             obtain rfl := Option.some.inj H
             try go_wp2
             have n0_ := Aside0.mk (Kd.R_drew HO_6.out)
             have n1_ := Aside0.mk (blk_drew BK277.out)
             have n2_ := Aside0.mk (below_drew1 HB.out)
             clear HO_6
             clear BK277
             clear HB
             have HO_6 := n0_
             have BK277 := n1_
             have HB := n2_
             clear n0_ n1_ n2_
             have p285 : 0 ≤ (x5_1 : Int) := of_decide_eq_true (by with_reducible assumption)
             have q285 : x5_1 < (l0.length : Int) := of_decide_eq_true (by with_reducible assumption)
             obtain ⟨ad285, e285, hx285_0, hx285_1, hx285_2, hx285_3, hx285_4, hx285_5, hx285_6, hx285_7, hx285_8, hx285_9, hx285_10, hx285_11⟩ := at_T49 HR0.out x5_1 p285 q285
             have hw285_11 := hx285_11
             have hw285_10 := hx285_10
             have hw285_9 := hx285_9
             have hw285_8 := hx285_8
             have hw285_7 := hx285_7
             have hw285_6 := hx285_6
             have hw285_5 := hx285_5
             have hw285_4 := hx285_4
             have hw285_3 := hx285_3
             have hw285_2 := hx285_2
             have hw285_1 := hx285_1
             have hw285_0 := hx285_0
             cases e285
             replace hx285_0 := pw_cell_below HB.out hx285_0
             replace hx285_1 := pw_cell_below HB.out hx285_1
             replace hx285_2 := pw_cell_below HB.out hx285_2
             replace hx285_3 := pw_cell_below HB.out hx285_3
             replace hx285_4 := pw_cell_below HB.out hx285_4
             replace hx285_5 := pw_cell_below HB.out hx285_5
             replace hx285_6 := pw_cell_below HB.out hx285_6
             replace hx285_7 := pw_cell_below HB.out hx285_7
             replace hx285_8 := pw_cell_below HB.out hx285_8
             replace hx285_9 := pw_cell_below HB.out hx285_9
             replace hx285_10 := pw_cell_below HB.out hx285_10
             replace hx285_11 := pw_cell_below HB.out hx285_11
             replace p285 := eq_true p285
             replace q285 := eq_true q285
             refine start_ (n := 13) (S := fun w' => w'.cell? ⟨gb277, 0, none⟩ = some (.bool a1_0) ∧ w'.cell? ⟨gb277, 1, none⟩ = some (.int .i64 a1_1) ∧ w'.cell? ⟨gb277, 2, none⟩ = some (.string a1_2) ∧ w'.cell? ⟨gb277, 3, none⟩ = some (.int .i64 a1_3) ∧ w'.cell? ⟨gb277, 4, none⟩ = some (.int .i64 a1_4) ∧ w'.cell? ⟨gb277, 5, none⟩ = some (.int .i64 a1_5) ∧ w'.cell? ⟨gb277, 6, none⟩ = some (.bool a1_6) ∧ w'.cell? ⟨gb277, 7, none⟩ = some (.int .i64 a1_7) ∧ w'.cell? ⟨gb277, 8, none⟩ = some (.string a1_8) ∧ w'.cell? ⟨gb277, 9, none⟩ = some (.bool a1_9) ∧ w'.cell? ⟨gb277, 10, none⟩ = some (.int .i64 a1_10) ∧ w'.cell? ⟨gb277, 11, none⟩ = some (.string a1_11) ∧ w'.cell? (ad285.add ((x5_1).toNat * 12)) = some (.bool ((rd_T49 l0 x5_1).f0.f0)) ∧ w'.cell? ⟨(ad285.add ((x5_1).toNat * 12)).block, (ad285.add ((x5_1).toNat * 12)).off + 1, none⟩ = some (.int .i64 ((rd_T49 l0 x5_1).f0.f1)) ∧ w'.cell? ⟨(ad285.add ((x5_1).toNat * 12)).block, (ad285.add ((x5_1).toNat * 12)).off + 2, none⟩ = some (.string ((rd_T49 l0 x5_1).f0.f2)) ∧ w'.cell? ⟨(ad285.add ((x5_1).toNat * 12)).block, (ad285.add ((x5_1).toNat * 12)).off + 3, none⟩ = some (.int .i64 ((rd_T49 l0 x5_1).f1.f0)) ∧ w'.cell? ⟨(ad285.add ((x5_1).toNat * 12)).block, (ad285.add ((x5_1).toNat * 12)).off + 4, none⟩ = some (.int .i64 ((rd_T49 l0 x5_1).f1.f1)) ∧ w'.cell? ⟨(ad285.add ((x5_1).toNat * 12)).block, (ad285.add ((x5_1).toNat * 12)).off + 5, none⟩ = some (.int .i64 ((rd_T49 l0 x5_1).f1.f2)) ∧ w'.cell? ⟨(ad285.add ((x5_1).toNat * 12)).block, (ad285.add ((x5_1).toNat * 12)).off + 6, none⟩ = some (.bool ((rd_T49 l0 x5_1).f1.f3.f0)) ∧ w'.cell? ⟨(ad285.add ((x5_1).toNat * 12)).block, (ad285.add ((x5_1).toNat * 12)).off + 7, none⟩ = some (.int .i64 ((rd_T49 l0 x5_1).f1.f3.f1)) ∧ w'.cell? ⟨(ad285.add ((x5_1).toNat * 12)).block, (ad285.add ((x5_1).toNat * 12)).off + 8, none⟩ = some (.string ((rd_T49 l0 x5_1).f1.f3.f2)) ∧ w'.cell? ⟨(ad285.add ((x5_1).toNat * 12)).block, (ad285.add ((x5_1).toNat * 12)).off + 9, none⟩ = some (.bool ((rd_T49 l0 x5_1).f1.f4.f0)) ∧ w'.cell? ⟨(ad285.add ((x5_1).toNat * 12)).block, (ad285.add ((x5_1).toNat * 12)).off + 10, none⟩ = some (.int .i64 ((rd_T49 l0 x5_1).f1.f4.f1)) ∧ w'.cell? ⟨(ad285.add ((x5_1).toNat * 12)).block, (ad285.add ((x5_1).toNat * 12)).off + 11, none⟩ = some (.string ((rd_T49 l0 x5_1).f1.f4.f2))) (ds := [12]) #[false, false, false, false, false, false, false, false, false, false, false, false, false] (by kernel_rfl) rfl rfl ⟨(blk_cell BK277.out 0).trans rfl, (blk_cell BK277.out 1).trans rfl, (blk_cell BK277.out 2).trans rfl, (blk_cell BK277.out 3).trans rfl, (blk_cell BK277.out 4).trans rfl, (blk_cell BK277.out 5).trans rfl, (blk_cell BK277.out 6).trans rfl, (blk_cell BK277.out 7).trans rfl, (blk_cell BK277.out 8).trans rfl, (blk_cell BK277.out 9).trans rfl, (blk_cell BK277.out 10).trans rfl, (blk_cell BK277.out 11).trans rfl, (pw_cell_below HB.out hw285_0), (pw_cell_below HB.out hw285_1), (pw_cell_below HB.out hw285_2), (pw_cell_below HB.out hw285_3), (pw_cell_below HB.out hw285_4), (pw_cell_below HB.out hw285_5), (pw_cell_below HB.out hw285_6), (pw_cell_below HB.out hw285_7), (pw_cell_below HB.out hw285_8), (pw_cell_below HB.out hw285_9), (pw_cell_below HB.out hw285_10), (pw_cell_below HB.out hw285_11)⟩ (fun hHeld => ?_); refine with_tabW tithebarnref24_add.tab6 tithebarnref24_add.bits6 (fun HT_ HW_ => ?_)
             generalize wc.drew = w27 at HO_6 BK277 HB hx285_0 hx285_1 hx285_10 hx285_11 hx285_2 hx285_3 hx285_4 hx285_5 hx285_6 hx285_7 hx285_8 hx285_9 hHeld ⊢
             refine pure_ (i := 0) (N := some 40) (v := ?_) (a' := ?_) #[true, false, false, false, false, false, false, false, false, false, false, false, false] rfl rfl (any_of HT_.out (by kernel_rfl)) (fun _ _ _ h => h) (Or.inl ⟨by rfl, ?_⟩) ?_ ?_
             rotate_left
             ·intro w'
              go_simp
              with_reducible rfl
             rotate_left
             ·simp only [Act.put, List.setIfInBounds_toArray, List.set_cons_zero, List.set_cons_succ, i64_w, i32_w]
              rfl
             refine pure_ (i := 1) (N := some 41) (v := ?_) (a' := ?_) #[true, true, false, false, false, false, false, false, false, false, false, false, false] rfl rfl (any_of HT_.out (by kernel_rfl)) (fun _ _ _ h => h) (Or.inl ⟨by rfl, ?_⟩) ?_ ?_
             rotate_left
             ·intro w'
              go_simp
              with_reducible rfl
             rotate_left
             ·simp only [Act.put, List.setIfInBounds_toArray, List.set_cons_zero, List.set_cons_succ, i64_w, i32_w]
              rfl
             refine pure_ (i := 2) (N := some 42) (v := ?_) (a' := ?_) #[true, true, true, false, false, false, false, false, false, false, false, false, false] rfl rfl (any_of HT_.out (by kernel_rfl)) (fun _ _ _ h => h) (Or.inl ⟨by rfl, ?_⟩) ?_ ?_
             rotate_left
             ·intro w'
              go_simp
              with_reducible rfl
             rotate_left
             ·simp only [Act.put, List.setIfInBounds_toArray, List.set_cons_zero, List.set_cons_succ, i64_w, i32_w]
              rfl
             refine pure_ (i := 3) (N := some 43) (v := ?_) (a' := ?_) #[true, true, true, true, false, false, false, false, false, false, false, false, false] rfl rfl (any_of HT_.out (by kernel_rfl)) (fun _ _ _ h => h) (Or.inl ⟨by rfl, ?_⟩) ?_ ?_
             rotate_left
             ·intro w'
              go_simp
              with_reducible rfl
             rotate_left
             ·simp only [Act.put, List.setIfInBounds_toArray, List.set_cons_zero, List.set_cons_succ, i64_w, i32_w]
              rfl
             refine pure_ (i := 4) (N := some 44) (v := ?_) (a' := ?_) #[true, true, true, true, true, false, false, false, false, false, false, false, false] rfl rfl (any_of HT_.out (by kernel_rfl)) (fun _ _ _ h => h) (Or.inl ⟨by rfl, ?_⟩) ?_ ?_
             rotate_left
             ·intro w'
              go_simp
              with_reducible rfl
             rotate_left
             ·simp only [Act.put, List.setIfInBounds_toArray, List.set_cons_zero, List.set_cons_succ, i64_w, i32_w]
              rfl
             refine pure_ (i := 5) (N := some 45) (v := ?_) (a' := ?_) #[true, true, true, true, true, true, false, false, false, false, false, false, false] rfl rfl (any_of HT_.out (by kernel_rfl)) (fun _ _ _ h => h) (Or.inl ⟨by rfl, ?_⟩) ?_ ?_
             rotate_left
             ·intro w'
              go_simp
              with_reducible rfl
             rotate_left
             ·simp only [Act.put, List.setIfInBounds_toArray, List.set_cons_zero, List.set_cons_succ, i64_w, i32_w]
              rfl
             refine pure_ (i := 7) (N := some 47) (v := ?_) (a' := ?_) #[true, true, true, true, true, true, false, true, false, false, false, false, false] rfl rfl (any_of HT_.out (by kernel_rfl)) (fun _ _ _ h => h) (Or.inl ⟨by rfl, ?_⟩) ?_ ?_
             rotate_left
             ·intro w'
              go_simp
              with_reducible rfl
             rotate_left
             ·simp only [Act.put, List.setIfInBounds_toArray, List.set_cons_zero, List.set_cons_succ, i64_w, i32_w]
              rfl
             refine take_ (i := 6) (N := some 46) (v := ?_) (a' := ?_) #[true, true, true, true, true, true, true, true, false, false, false, false, false] rfl rfl (take_ofW HT_.out HW_.out (by kernel_rfl)) (fun _ _ _ h => h) (Or.inl ⟨by rfl, ?_⟩) hHeld ?_ ?_
             rotate_left
             ·rintro w' ⟨s0, s1, s2, s3, s4, s5, s6, s7, s8, s9, s10, s11, s12, s13, s14, s15, s16, s17, s18, s19, s20, s21, s22, s23⟩
              go_simp
              with_reducible rfl
             rotate_left
             ·simp only [Act.put, List.setIfInBounds_toArray, List.set_cons_zero, List.set_cons_succ, i64_w, i32_w]
              rfl
             refine take_ (i := 8) (N := some 48) (v := ?_) (a' := ?_) #[true, true, true, true, true, true, true, true, true, false, false, false, false] rfl rfl (take_ofW HT_.out HW_.out (by kernel_rfl)) (fun _ _ _ h => h) (Or.inl ⟨by rfl, ?_⟩) hHeld ?_ ?_
             rotate_left
             ·rintro w' ⟨s0, s1, s2, s3, s4, s5, s6, s7, s8, s9, s10, s11, s12, s13, s14, s15, s16, s17, s18, s19, s20, s21, s22, s23⟩
              go_simp
              with_reducible rfl
             rotate_left
             ·simp only [Act.put, List.setIfInBounds_toArray, List.set_cons_zero, List.set_cons_succ, i64_w, i32_w]
              rfl
             refine one_ (i := 9) (N := some 49) #[true, true, true, true, true, true, true, true, true, true, false, false, false] rfl rfl (one_of HT_.out (by kernel_rfl)) (by decide) (fun K hK => ?_)
             refine goes_ Try.func61 (by kernel_rfl) rfl #[.agg #[.int .i64 ((rd_T49 l0 x5_1).f1.f0), .int .i64 ((rd_T49 l0 x5_1).f1.f1), .int .i64 ((rd_T49 l0 x5_1).f1.f2), .bool ((rd_T49 l0 x5_1).f1.f3.f0), .int .i64 ((rd_T49 l0 x5_1).f1.f3.f1), .string ((rd_T49 l0 x5_1).f1.f3.f2), .bool ((rd_T49 l0 x5_1).f1.f4.f0), .int .i64 ((rd_T49 l0 x5_1).f1.f4.f1), .string ((rd_T49 l0 x5_1).f1.f4.f2)], .agg #[.int .i64 a1_3, .int .i64 a1_4, .int .i64 a1_5, .bool a1_6, .int .i64 a1_7, .string a1_8, .bool a1_9, .int .i64 a1_10, .string a1_11]] (by rfl) rfl rfl (by (try simp only [List.map_toArray, List.map_cons, List.map_nil]); first | done | rfl | (simp only [List.length_drop, List.length_take]; rfl)) ?_
             with_reducible refine (tithebarnref18_Join.calls kj12 ((rd_T49 l0 x5_1).f1.f0) ((rd_T49 l0 x5_1).f1.f1) ((rd_T49 l0 x5_1).f1.f2) ((rd_T49 l0 x5_1).f1.f3.f0) ((rd_T49 l0 x5_1).f1.f3.f1) ((rd_T49 l0 x5_1).f1.f3.f2) ((rd_T49 l0 x5_1).f1.f4.f0) ((rd_T49 l0 x5_1).f1.f4.f1) ((rd_T49 l0 x5_1).f1.f4.f2) a1_3 a1_4 a1_5 a1_6 a1_7 a1_8 a1_9 a1_10 a1_11 t286 t287 t288 t289 t290 t291 t292 t293 t294 _ A24.out).mono ?_
             rintro e w28 ⟨rfl, hb⟩
             refine ⟨_, rfl, ?_⟩
             have n0_ := Aside0.mk (Kd.R_below (by (with_reducible repeat (first | apply Kd.R_alloc | apply Kd.R_drewN | apply Kd.R_drew)); exact HO_6.out) hb)
             have n1_ := Aside0.mk (blk_below (g := gb277) (o := .cells #[.bool a1_0, .int .i64 a1_1, .string a1_2, .int .i64 a1_3, .int .i64 a1_4, .int .i64 a1_5, .bool a1_6, .int .i64 a1_7, .string a1_8, .bool a1_9, .int .i64 a1_10, .string a1_11] 49 (0, 0)) (by (with_reducible repeat (first | refine blk_drewN ?_ _ | refine blk_drew ?_ | refine blk_alloc ?_ _)); exact BK277.out) hb)
             have n2_ := Aside0.mk (below_step (by with_reducible repeat first | exact HB.out | apply below_alloc | apply pw_below_drewN | apply below_drew1 | refine below_set ?_ GE277.out) hb)
             clear HO_6
             clear BK277
             clear HB
             have HO_6 := n0_
             have BK277 := n1_
             have HB := n2_
             clear n0_ n1_ n2_
             (try clear hb)
             (try clear hb2)
             (try clear hk)
             (try clear hi)
             have p26 : 0 ≤ (x5_1 : Int) := of_decide_eq_true (by with_reducible assumption)
             have q26 : (x5_1 : Int) < ((y280.length : Int) : Int) := of_decide_eq_true (by with_reducible assumption)
             obtain ⟨go26, co26, eo26, gb26, gl26, cl26, HG26⟩ := Kd.R_form HO_6.out (by omega)
             (first | cases eo26 | (injection eo26 with ea_ en_ ec_; (first | subst ea_ | (injection ea_ with ea_; subst ea_)); subst ec_; clear en_))
             have GB26 := Aside0.mk gb26
             have GG26 := Aside0.mk HG26
             clear gb26 gl26 HG26
             obtain ⟨ce26, hcl26, hM26, hcc26, hfr26⟩ := Kd.R_elem HO_6.out z49 (x5_1 : Int) p26 q26
             obtain rfl := k49_openM hM26
             have hx26_0 : World.cell? _ ⟨go26, (x5_1 : Int).toNat * 12, none⟩ = some (.bool ((rd_T49 y280 x5_1).f0.f0)) := hcc26 0 _ rfl
             have hx26_1 : World.cell? _ ⟨go26, (x5_1 : Int).toNat * 12 + 1, none⟩ = some (.int .i64 ((rd_T49 y280 x5_1).f0.f1)) := hcc26 1 _ rfl
             have hx26_2 : World.cell? _ ⟨go26, (x5_1 : Int).toNat * 12 + 2, none⟩ = some (.string ((rd_T49 y280 x5_1).f0.f2)) := hcc26 2 _ rfl
             have hx26_3 : World.cell? _ ⟨go26, (x5_1 : Int).toNat * 12 + 3, none⟩ = some (.int .i64 ((rd_T49 y280 x5_1).f1.f0)) := hcc26 3 _ rfl
             have hx26_4 : World.cell? _ ⟨go26, (x5_1 : Int).toNat * 12 + 4, none⟩ = some (.int .i64 ((rd_T49 y280 x5_1).f1.f1)) := hcc26 4 _ rfl
             have hx26_5 : World.cell? _ ⟨go26, (x5_1 : Int).toNat * 12 + 5, none⟩ = some (.int .i64 ((rd_T49 y280 x5_1).f1.f2)) := hcc26 5 _ rfl
             have hx26_6 : World.cell? _ ⟨go26, (x5_1 : Int).toNat * 12 + 6, none⟩ = some (.bool ((rd_T49 y280 x5_1).f1.f3.f0)) := hcc26 6 _ rfl
             have hx26_7 : World.cell? _ ⟨go26, (x5_1 : Int).toNat * 12 + 7, none⟩ = some (.int .i64 ((rd_T49 y280 x5_1).f1.f3.f1)) := hcc26 7 _ rfl
             have hx26_8 : World.cell? _ ⟨go26, (x5_1 : Int).toNat * 12 + 8, none⟩ = some (.string ((rd_T49 y280 x5_1).f1.f3.f2)) := hcc26 8 _ rfl
             have hx26_9 : World.cell? _ ⟨go26, (x5_1 : Int).toNat * 12 + 9, none⟩ = some (.bool ((rd_T49 y280 x5_1).f1.f4.f0)) := hcc26 9 _ rfl
             have hx26_10 : World.cell? _ ⟨go26, (x5_1 : Int).toNat * 12 + 10, none⟩ = some (.int .i64 ((rd_T49 y280 x5_1).f1.f4.f1)) := hcc26 10 _ rfl
             have hx26_11 : World.cell? _ ⟨go26, (x5_1 : Int).toNat * 12 + 11, none⟩ = some (.string ((rd_T49 y280 x5_1).f1.f4.f2)) := hcc26 11 _ rfl
             have hf26_0 : World.frozen? _ ⟨go26, (x5_1 : Int).toNat * 12, none⟩ = false := hfr26 0
             have hf26_1 : World.frozen? _ ⟨go26, (x5_1 : Int).toNat * 12 + 1, none⟩ = false := hfr26 1
             have hf26_2 : World.frozen? _ ⟨go26, (x5_1 : Int).toNat * 12 + 2, none⟩ = false := hfr26 2
             have hf26_3 : World.frozen? _ ⟨go26, (x5_1 : Int).toNat * 12 + 3, none⟩ = false := hfr26 3
             have hf26_4 : World.frozen? _ ⟨go26, (x5_1 : Int).toNat * 12 + 4, none⟩ = false := hfr26 4
             have hf26_5 : World.frozen? _ ⟨go26, (x5_1 : Int).toNat * 12 + 5, none⟩ = false := hfr26 5
             have hf26_6 : World.frozen? _ ⟨go26, (x5_1 : Int).toNat * 12 + 6, none⟩ = false := hfr26 6
             have hf26_7 : World.frozen? _ ⟨go26, (x5_1 : Int).toNat * 12 + 7, none⟩ = false := hfr26 7
             have hf26_8 : World.frozen? _ ⟨go26, (x5_1 : Int).toNat * 12 + 8, none⟩ = false := hfr26 8
             have hf26_9 : World.frozen? _ ⟨go26, (x5_1 : Int).toNat * 12 + 9, none⟩ = false := hfr26 9
             have hf26_10 : World.frozen? _ ⟨go26, (x5_1 : Int).toNat * 12 + 10, none⟩ = false := hfr26 10
             have hf26_11 : World.frozen? _ ⟨go26, (x5_1 : Int).toNat * 12 + 11, none⟩ = false := hfr26 11
             clear hcl26 hcc26 hfr26 hM26
             replace p26 := eq_true p26
             replace q26 := eq_true q26
             obtain ⟨ce29, hcl29, hM29, hcc29, hfr29⟩ := Kd.R_elem HO_6.out z49 (x5_1 : Int) (of_decide_eq_true (by with_reducible assumption)) (by have h_ : (x5_1 : Int) < ((y280.length : Int) : Int) := of_decide_eq_true (by with_reducible assumption); first | exact h_ | (have e_ := (Kd.R_reads' HO_6.out).1; omega) | simpa using h_)
             obtain rfl := k49_openM hM29
             have HP29 := (Kd.R_seg HO_6.out (x5_1 : Int) (of_decide_eq_true (by with_reducible assumption)) (by have h_ : (x5_1 : Int) < ((y280.length : Int) : Int) := of_decide_eq_true (by with_reducible assumption); first | exact h_ | (have e_ := (Kd.R_reads' HO_6.out).1; omega) | simpa using h_) (seg := [.int .i64 t286, .int .i64 t287, .int .i64 t288, .bool t289, .int .i64 t290, .string t291, .bool t292, .int .i64 t293, .string t294]) (j := 3) hcl29 hcc29 (show 12 ≤ 12 from by decide) (x' := (⟨(⟨(rd_T49 y280 x5_1).f0.f0, (rd_T49 y280 x5_1).f0.f1, (rd_T49 y280 x5_1).f0.f2⟩ : S37), (⟨t286, t287, t288, (⟨t289, t290, t291⟩ : S37), (⟨t292, t293, t294⟩ : S37)⟩ : S47)⟩ : S49)) (k49_mkM _ _ _ (⟨(⟨(rd_T49 y280 x5_1).f0.f0, (rd_T49 y280 x5_1).f0.f1, (rd_T49 y280 x5_1).f0.f2⟩ : S37), (⟨t286, t287, t288, (⟨t289, t290, t291⟩ : S37), (⟨t292, t293, t294⟩ : S37)⟩ : S47)⟩ : S49) ) (fun _ hk => hk)).1
             rw [← Ny295.out] at HP29
             have HQ29 := Aside0.mk HP29
             clear hcl29 hcc29 hfr29 hM29 HP29
             refine hK.out _ _ ⟨(blk_cell BK277.out 0).trans rfl, (blk_cell BK277.out 1).trans rfl, (blk_cell BK277.out 2).trans rfl, (blk_cell BK277.out 3).trans rfl, (blk_cell BK277.out 4).trans rfl, (blk_cell BK277.out 5).trans rfl, (blk_cell BK277.out 6).trans rfl, (blk_cell BK277.out 7).trans rfl, (blk_cell BK277.out 8).trans rfl, (blk_cell BK277.out 9).trans rfl, (blk_cell BK277.out 10).trans rfl, (blk_cell BK277.out 11).trans rfl, (pw_cell_below HB.out hw285_0), (pw_cell_below HB.out hw285_1), (pw_cell_below HB.out hw285_2), (pw_cell_below HB.out hw285_3), (pw_cell_below HB.out hw285_4), (pw_cell_below HB.out hw285_5), (pw_cell_below HB.out hw285_6), (pw_cell_below HB.out hw285_7), (pw_cell_below HB.out hw285_8), (pw_cell_below HB.out hw285_9), (pw_cell_below HB.out hw285_10), (pw_cell_below HB.out hw285_11)⟩ (fun hHeld => ?_)
             clear hK K
             refine norm_ (a' := ?_) ?_ ?_
             rotate_left
             ·show Act.put _ (some 49) _ = _
              simp only [Act.put, List.setIfInBounds_toArray, List.set_cons_zero, List.set_cons_succ, i64_w, i32_w]
              rfl
             refine pure_ (i := 10) (N := some 50) (v := ?_) (a' := ?_) #[true, true, true, true, true, true, true, true, true, true, true, false, false] rfl rfl (any_of HT_.out (by kernel_rfl)) (fun _ _ _ h => h) (Or.inl ⟨by rfl, ?_⟩) ?_ ?_
             rotate_left
             ·intro w'
              go_simp
              with_reducible rfl
             rotate_left
             ·simp only [Act.put, List.setIfInBounds_toArray, List.set_cons_zero, List.set_cons_succ, i64_w, i32_w]
              rfl
             refine pure_ (i := 11) (N := some 51) (v := ?_) (a' := ?_) #[true, true, true, true, true, true, true, true, true, true, true, true, false] rfl rfl (any_of HT_.out (by kernel_rfl)) (fun _ _ _ h => h) (Or.inl ⟨by rfl, ?_⟩) ?_ ?_
             rotate_left
             ·intro w'
              go_simp
              with_reducible rfl
             rotate_left
             ·simp only [Act.put, List.setIfInBounds_toArray, List.set_cons_zero, List.set_cons_succ, i64_w, i32_w]
              rfl
             refine last_ (i := 12) (N := none) #[true, true, true, true, true, true, true, true, true, true, true, true, true] rfl rfl (one_of HT_.out (by kernel_rfl)) (by decide) (fun K hK => ?_)
             refine skip_ (w1 := ?_) (by rfl) rfl ?_ ?_
             rotate_left
             ·go_simp
              rfl
             refine hK.out _ _ ?_
             clear hK K
             refine done_ (done_of HT_.out (by kernel_rfl)) ?_
             try go_wp2
             go_ret
             exact ⟨_, by first | rfl | (simp [errW_none, errW_some] <;> rfl) | (simp [*, errW_none, errW_some] <;> rfl), by (with_reducible repeat (first | apply Kd.R_alloc | apply Kd.R_drewN | apply Kd.R_drew)); exact Kd.R_mono HQ29.out (fun _ hk => trivial), by repeat (first | (with_reducible first | exact HB.out | apply below_alloc | apply pw_below_drewN | apply below_drew1 | refine below_set ?_ GB26.out | refine below_set ?_ GB26.out | refine below_set ?_ GB26.out | refine below_set ?_ GB26.out | refine below_set ?_ GB26.out | refine below_set ?_ GB26.out | refine below_set ?_ GB26.out | refine below_set ?_ GB26.out | refine below_set ?_ GB26.out | refine below_set ?_ GE277.out) | exact HB.out)⟩
            ·rw [if_neg c25] at H
             exact absurd H (by simp)
           ·rw [if_neg c23] at H
            exact absurd H (by simp)
          ·rw [if_neg c22] at H
           exact absurd H (by simp)
         ·replace c21 := Bool.eq_false_iff.mpr c21
          subst c21
          have H1 : (if 0 ≤ x5_1 then (if x5_1 ≤ (y280.length : Int) then ((some (y280.take (x5_1 : Int).toNat : List (S49))).bind fun y296 => (if y296.length < 1172812402961 then ((some (y296 ++ [(⟨(⟨a1_0, a1_1, a1_2⟩ : S37), (⟨a1_3, a1_4, a1_5, (⟨a1_6, a1_7, a1_8⟩ : S37), (⟨a1_9, a1_10, a1_11⟩ : S37)⟩ : S47)⟩ : S49)] : List (S49))).bind fun y300 => (if x5_1 ≤ (l0.length : Int) then ((some (l0.drop (x5_1 : Int).toNat : List (S49))).bind fun y303 => (if y300.length + y303.length < 1172812402961 then (some (y300 ++ y303)) else (none))) else (none))) else (none))) else (none)) else (none)) = some r := by rw [if_neg (show ¬ (false = true) by decide)] at H; exact H
          clear H
          have H := H1
          clear H1
          by_cases c30 : 0 ≤ x5_1
          ·rw [if_pos c30] at H
           have c30b0 := eq_true c30
           have c30b1 : decide (0 ≤ x5_1) = true := decide_eq_true c30
           clear c30
           by_cases c31 : x5_1 ≤ (y280.length : Int)
           ·rw [if_pos c31] at H
            have c31b0 := eq_true c31
            have c31b1 : decide (x5_1 ≤ (y280.length : Int)) = true := decide_eq_true c31
            clear c31
            obtain ⟨y296, hy296⟩ : ∃ y_ : List (S49), y_ = (y280.take (x5_1 : Int).toNat) := ⟨_, rfl⟩
            replace H : (if y296.length < 1172812402961 then ((some (y296 ++ [(⟨(⟨a1_0, a1_1, a1_2⟩ : S37), (⟨a1_3, a1_4, a1_5, (⟨a1_6, a1_7, a1_8⟩ : S37), (⟨a1_9, a1_10, a1_11⟩ : S37)⟩ : S47)⟩ : S49)] : List (S49))).bind fun y300 => (if x5_1 ≤ (l0.length : Int) then ((some (l0.drop (x5_1 : Int).toNat : List (S49))).bind fun y303 => (if y300.length + y303.length < 1172812402961 then (some (y300 ++ y303)) else (none))) else (none))) else (none)) = some r := by first | (rw [hy296]; with_reducible exact H) | (have H2_ := (Option.bind_some _ _).symm.trans H; rw [hy296]; with_reducible exact H2_) | (have H2_ := (Option.bind_some _ _).symm.trans H; with_reducible exact H2_) | with_reducible exact H | (rw [hy296]; exact H) | exact H
            have Ny296 := Aside0.mk hy296
            clear hy296
            by_cases c32 : y296.length < 1172812402961
            ·rw [if_pos c32] at H
             have LMc32 := Aside0.mk c32
             clear c32
             obtain ⟨y300, hy300⟩ : ∃ y_ : List (S49), y_ = (y296 ++ [(⟨(⟨a1_0, a1_1, a1_2⟩ : S37), (⟨a1_3, a1_4, a1_5, (⟨a1_6, a1_7, a1_8⟩ : S37), (⟨a1_9, a1_10, a1_11⟩ : S37)⟩ : S47)⟩ : S49)]) := ⟨_, rfl⟩
             replace H : (if x5_1 ≤ (l0.length : Int) then ((some (l0.drop (x5_1 : Int).toNat : List (S49))).bind fun y303 => (if y300.length + y303.length < 1172812402961 then (some (y300 ++ y303)) else (none))) else (none)) = some r := by first | (rw [hy300]; with_reducible exact H) | (have H2_ := (Option.bind_some _ _).symm.trans H; rw [hy300]; with_reducible exact H2_) | (have H2_ := (Option.bind_some _ _).symm.trans H; with_reducible exact H2_) | with_reducible exact H | (rw [hy300]; exact H) | exact H
             have Ny300 := Aside0.mk hy300
             clear hy300
             have c33b0 := eq_true (of_decide_eq_true (by with_reducible assumption) : 0 ≤ x5_1)
             by_cases c34 : x5_1 ≤ (l0.length : Int)
             ·rw [if_pos c34] at H
              have c34b0 := eq_true c34
              have c34b1 : decide (x5_1 ≤ (l0.length : Int)) = true := decide_eq_true c34
              clear c34
              obtain ⟨y303, hy303⟩ : ∃ y_ : List (S49), y_ = (l0.drop (x5_1 : Int).toNat) := ⟨_, rfl⟩
              replace H : (if y300.length + y303.length < 1172812402961 then (some (y300 ++ y303)) else (none)) = some r := by first | (rw [hy303]; with_reducible exact H) | (have H2_ := (Option.bind_some _ _).symm.trans H; rw [hy303]; with_reducible exact H2_) | (have H2_ := (Option.bind_some _ _).symm.trans H; with_reducible exact H2_) | with_reducible exact H | (rw [hy303]; exact H) | exact H
              have Ny303 := Aside0.mk hy303
              clear hy303
              by_cases c35 : y300.length + y303.length < 1172812402961
              ·rw [if_pos c35] at H
               have LMc35 := Aside0.mk c35
               clear c35
               obtain ⟨y307, hy307⟩ : ∃ y_ : List (S49), y_ = (y300 ++ y303) := ⟨_, rfl⟩
               replace H : (some y307) = some r := by first | (rw [hy307]; with_reducible exact H) | (have H2_ := (Option.bind_some _ _).symm.trans H; rw [hy307]; with_reducible exact H2_) | (have H2_ := (Option.bind_some _ _).symm.trans H; with_reducible exact H2_) | with_reducible exact H | (rw [hy307]; exact H) | exact H
               have Ny307 := Aside0.mk hy307
               clear hy307
               obtain rfl := Option.some.inj H
               try go_wp2
               have n0_ := Aside0.mk (Kd.R_drew HO_6.out)
               have n1_ := Aside0.mk (blk_drew BK277.out)
               have n2_ := Aside0.mk (below_drew1 HB.out)
               clear HO_6
               clear BK277
               clear HB
               have HO_6 := n0_
               have BK277 := n1_
               have HB := n2_
               clear n0_ n1_ n2_
               obtain ⟨Ao38, co38, eo38⟩ := Kd.R_slice HO_6.out
               (first | subst eo38 | (injection eo38 with f1_ f2_ f3_; have f4_ := f1_.symm; have f5_ := f3_.symm; clear f1_ f2_ f3_; subst f4_; subst f5_))
               have q37 : (x5_1 : Int) ≤ ((y280.length : Int) : Int) := of_decide_eq_true (by with_reducible assumption)
               obtain ⟨i037, hi037, _, hsz37, _⟩ := info_parts info49
               have hroom37 : y280.length ≤ co38 := (Kd.R_reads' HO_6.out).2.1
               have hC37 : Kd.C k49 _ Ao38 y280.length y280 := (Kd.R_reads' HO_6.out).2.2
               have hcut37 := cut_full (P := Try.prog) 44 49 .i64 Try.underlying44 hi037 Ao38 y280.length co38 x5_1 (of_decide_eq_true (by with_reducible assumption)) q37 hroom37
               have hr37 := Kd.C_take (m := (x5_1 : Int).toNat) hC37 (by omega)
               have hy37 : y296.length = (x5_1 : Int).toNat := (by rw [Ny296.out, List.length_take]; omega)
               rw [← Ny296.out] at hr37
               rw [← hy37] at hcut37
               have HR299 := Aside0.mk hr37
               have HC299 := Aside0.mk (show y296.length ≤ (y296.length) from by omega)
               clear hr37 hC37 hroom37 hi037 hsz37
               have KY37 := Aside0.mk hy37
               clear hy37
               have KL37 := Aside0.mk (show (x5_1 : Int).toNat ≤ y280.length from by omega)
               replace q37 := eq_true q37
               have q39 : (x5_1 : Int) ≤ ((l0.length : Int) : Int) := of_decide_eq_true (by with_reducible assumption)
               obtain ⟨i039, hi039, _, hsz39, _⟩ := info_parts info49
               have hroom39 : l0.length ≤ c0 := HC0.out
               have hC39 : Kd.C k49 _ A0 l0.length l0 := HR0.out
               have q039 : (0 : Int) ≤ (x5_1 : Int) := of_decide_eq_true (by with_reducible assumption)
               have hcut39 := cut_from (P := Try.prog) 44 49 .i64 Try.underlying44 hi039 12 hsz39 A0 l0.length c0 x5_1 q039 q39
               have hr39 := Kd.C_drop (m := (x5_1 : Int).toNat) (c := c0) hC39 (by omega) hroom39
               obtain ⟨A39, hA39⟩ : ∃ A1, A1 = (if c0 = (x5_1 : Int).toNat then A0 else (A0 : Option Addr).map (·.add ((x5_1 : Int).toNat * 12))) := ⟨_, rfl⟩
               obtain ⟨c39, hc39⟩ : ∃ c1, c1 = c0 - (x5_1 : Int).toNat := ⟨_, rfl⟩
               have hy39 : y303.length = l0.length - (x5_1 : Int).toNat := (by rw [Ny303.out, List.length_drop] <;> omega)
               rw [show (l0).drop (x5_1 : Int).toNat = y303 from Ny303.out.symm] at hr39
               replace hr39 : Kd.C k49 _ A39 y303.length y303 := (by rw [hA39]; exact hr39)
               rw [← hy39, ← hA39, ← hc39] at hcut39
               have HR306 := Aside0.mk hr39
               have HC306 := Aside0.mk (show y303.length ≤ c39 from by rw [hy39, hc39]; exact Nat.sub_le_sub_right hroom39 _)
               clear hr39 hC39 hroom39 hi039 hsz39 hc39
               have KY39 := Aside0.mk hy39
               have KA39 := Aside0.mk hA39
               clear hy39 hA39
               replace q39 := eq_true q39
               refine start_ (n := 12) (S := fun w' => w'.cell? ⟨gb277, 0, none⟩ = some (.bool a1_0) ∧ w'.cell? ⟨gb277, 1, none⟩ = some (.int .i64 a1_1) ∧ w'.cell? ⟨gb277, 2, none⟩ = some (.string a1_2) ∧ w'.cell? ⟨gb277, 3, none⟩ = some (.int .i64 a1_3) ∧ w'.cell? ⟨gb277, 4, none⟩ = some (.int .i64 a1_4) ∧ w'.cell? ⟨gb277, 5, none⟩ = some (.int .i64 a1_5) ∧ w'.cell? ⟨gb277, 6, none⟩ = some (.bool a1_6) ∧ w'.cell? ⟨gb277, 7, none⟩ = some (.int .i64 a1_7) ∧ w'.cell? ⟨gb277, 8, none⟩ = some (.string a1_8) ∧ w'.cell? ⟨gb277, 9, none⟩ = some (.bool a1_9) ∧ w'.cell? ⟨gb277, 10, none⟩ = some (.int .i64 a1_10) ∧ w'.cell? ⟨gb277, 11, none⟩ = some (.string a1_11)) (ds := []) #[false, false, false, false, false, false, false, false, false, false, false, false] (by kernel_rfl) rfl rfl ⟨(blk_cell BK277.out 0).trans rfl, (blk_cell BK277.out 1).trans rfl, (blk_cell BK277.out 2).trans rfl, (blk_cell BK277.out 3).trans rfl, (blk_cell BK277.out 4).trans rfl, (blk_cell BK277.out 5).trans rfl, (blk_cell BK277.out 6).trans rfl, (blk_cell BK277.out 7).trans rfl, (blk_cell BK277.out 8).trans rfl, (blk_cell BK277.out 9).trans rfl, (blk_cell BK277.out 10).trans rfl, (blk_cell BK277.out 11).trans rfl⟩ (fun hHeld => ?_); refine with_tabW tithebarnref24_add.tab8 tithebarnref24_add.bits8 (fun HT_ HW_ => ?_)
               generalize wc.drew = w36 at HO_6 BK277 HB HR299 HR306 hHeld ⊢
               refine pure_ (i := 0) (N := some 53) (v := ?_) (a' := ?_) #[true, false, false, false, false, false, false, false, false, false, false, false] rfl rfl (any_of HT_.out (by kernel_rfl)) (fun _ _ _ h => h) (Or.inl ⟨by rfl, ?_⟩) ?_ ?_
               rotate_left
               ·intro w'
                go_simp
                with_reducible rfl
               rotate_left
               ·simp only [Act.put, List.setIfInBounds_toArray, List.set_cons_zero, List.set_cons_succ, i64_w, i32_w]
                rfl
               refine pure_ (i := 1) (N := some 54) (v := ?_) (a' := ?_) #[true, true, false, false, false, false, false, false, false, false, false, false] rfl rfl (any_of HT_.out (by kernel_rfl)) (fun _ _ _ h => h) (Or.inl ⟨by rfl, ?_⟩) ?_ ?_
               rotate_left
               ·intro w'
                go_simp
                with_reducible rfl
               rotate_left
               ·simp only [Act.put, List.setIfInBounds_toArray, List.set_cons_zero, List.set_cons_succ, i64_w, i32_w]
                rfl
               refine pure_ (i := 2) (N := some 55) (v := ?_) (a' := ?_) #[true, true, true, false, false, false, false, false, false, false, false, false] rfl rfl (any_of HT_.out (by kernel_rfl)) (fun _ _ _ h => h) (Or.inl ⟨by rfl, ?_⟩) ?_ ?_
               rotate_left
               ·intro w'
                go_simp
                with_reducible rfl
               rotate_left
               ·simp only [Act.put, List.setIfInBounds_toArray, List.set_cons_zero, List.set_cons_succ, i64_w, i32_w]
                rfl
               refine pure_ (i := 3) (N := some 56) (v := ?_) (a' := ?_) #[true, true, true, true, false, false, false, false, false, false, false, false] rfl rfl (any_of HT_.out (by kernel_rfl)) (fun _ _ _ h => h) (Or.inl ⟨by rfl, ?_⟩) ?_ ?_
               rotate_left
               ·intro w'
                go_simp
                with_reducible rfl
               rotate_left
               ·simp only [Act.put, List.setIfInBounds_toArray, List.set_cons_zero, List.set_cons_succ, i64_w, i32_w]
                rfl
               refine pure_ (i := 7) (N := some 60) (v := ?_) (a' := ?_) #[true, true, true, true, false, false, false, true, false, false, false, false] rfl rfl (any_of HT_.out (by kernel_rfl)) (fun _ _ _ h => h) (Or.inl ⟨by rfl, ?_⟩) ?_ ?_
               rotate_left
               ·intro w'
                go_simp
                with_reducible rfl
               rotate_left
               ·simp only [Act.put, List.setIfInBounds_toArray, List.set_cons_zero, List.set_cons_succ, i64_w, i32_w]
                rfl
               refine pure_ (i := 8) (N := some 61) (v := ?_) (a' := ?_) #[true, true, true, true, false, false, false, true, true, false, false, false] rfl rfl (any_of HT_.out (by kernel_rfl)) (fun _ _ _ h => h) (Or.inl ⟨by rfl, ?_⟩) ?_ ?_
               rotate_left
               ·intro w'
                go_simp
                with_reducible rfl
               rotate_left
               ·simp only [Act.put, List.setIfInBounds_toArray, List.set_cons_zero, List.set_cons_succ, i64_w, i32_w]
                rfl
               refine pure_ (i := 9) (N := some 62) (v := ?_) (a' := ?_) #[true, true, true, true, false, false, false, true, true, true, false, false] rfl rfl (any_of HT_.out (by kernel_rfl)) (fun _ _ _ h => h) (Or.inl ⟨by rfl, ?_⟩) ?_ ?_
               rotate_left
               ·intro w'
                go_simp
                with_reducible rfl
               rotate_left
               ·simp only [Act.put, List.setIfInBounds_toArray, List.set_cons_zero, List.set_cons_succ, i64_w, i32_w]
                rfl
               refine take_ (i := 4) (N := some 57) (v := ?_) (a' := ?_) #[true, true, true, true, true, false, false, true, true, true, false, false] rfl rfl (take_ofW HT_.out HW_.out (by kernel_rfl)) (fun _ _ _ h => h) (Or.inl ⟨by rfl, ?_⟩) hHeld ?_ ?_
               rotate_left
               ·rintro w' ⟨s0, s1, s2, s3, s4, s5, s6, s7, s8, s9, s10, s11⟩
                go_simp
                with_reducible rfl
               rotate_left
               ·simp only [Act.put, List.setIfInBounds_toArray, List.set_cons_zero, List.set_cons_succ, i64_w, i32_w]
                rfl
               refine one_ (i := 5) (N := some 58) #[true, true, true, true, true, true, false, true, true, true, false, false] rfl rfl (one_of HT_.out (by kernel_rfl)) (by decide) (fun K hK => ?_)
               refine value_ (w1 := ?_) (v := ?_) (by rfl) rfl ?_ ?_
               rotate_left 2
               ·go_simp
                constructor
                ·rfl
                ·rfl
               refine hK.out _ _ ⟨(blk_cell (blk_alloc BK277.out _) 0).trans rfl, (blk_cell (blk_alloc BK277.out _) 1).trans rfl, (blk_cell (blk_alloc BK277.out _) 2).trans rfl, (blk_cell (blk_alloc BK277.out _) 3).trans rfl, (blk_cell (blk_alloc BK277.out _) 4).trans rfl, (blk_cell (blk_alloc BK277.out _) 5).trans rfl, (blk_cell (blk_alloc BK277.out _) 6).trans rfl, (blk_cell (blk_alloc BK277.out _) 7).trans rfl, (blk_cell (blk_alloc BK277.out _) 8).trans rfl, (blk_cell (blk_alloc BK277.out _) 9).trans rfl, (blk_cell (blk_alloc BK277.out _) 10).trans rfl, (blk_cell (blk_alloc BK277.out _) 11).trans rfl⟩ (fun hHeld => ?_)
               clear hK K
               refine norm_ (a' := ?_) ?_ ?_
               rotate_left
               ·show Act.put _ (some 58) _ = _
                simp only [Act.put, List.setIfInBounds_toArray, List.set_cons_zero, List.set_cons_succ, i64_w, i32_w]
                rfl
               refine one_ (i := 6) (N := some 59) #[true, true, true, true, true, true, true, true, true, true, false, false] rfl rfl (one_of HT_.out (by kernel_rfl)) (by decide) (fun K hK => ?_)
               refine Kd.R_append_full_step k49 (w0 := w) w.heap.size (by rfl) (.tmp 56) (.tmp 58) 44 49 (.agg #[(.bool false), (.int .i64 0), (.string ⟨#[]⟩), (.int .i64 0), (.int .i64 0), (.int .i64 0), (.bool false), (.int .i64 0), (.string ⟨#[]⟩), (.bool false), (.int .i64 0), (.string ⟨#[]⟩)]) 120 rfl Try.underlying44 info49 rfl (by decide) (by omega) Ao38 y296 (⟨(⟨a1_0, a1_1, a1_2⟩ : S37), (⟨a1_3, a1_4, a1_5, (⟨a1_6, a1_7, a1_8⟩ : S37), (⟨a1_9, a1_10, a1_11⟩ : S37)⟩ : S47)⟩ : S49) [.bool a1_0, .int .i64 a1_1, .string a1_2, .int .i64 a1_3, .int .i64 a1_4, .int .i64 a1_5, .bool a1_6, .int .i64 a1_7, .string a1_8, .bool a1_9, .int .i64 a1_10, .string a1_11] (fun k_ => some k_ ≠ (.slice Ao38 y280.length co38 : Value).ownBlock ∧ k_ ≠ gb277) (fun _ => False) rfl rfl ?aP (fun _ hk => hk.elim) ?aF (fun _ _ _ h_ => by obtain rfl := k49_open h_; exact k49_mkM _ _ _ _) ?aO ?aB ?aS ?aL ?_
               (case aP => exact k49_mkM _ _ _ (⟨(⟨a1_0, a1_1, a1_2⟩ : S37), (⟨a1_3, a1_4, a1_5, (⟨a1_6, a1_7, a1_8⟩ : S37), (⟨a1_9, a1_10, a1_11⟩ : S37)⟩ : S47)⟩ : S49))
               (case aB => exact (by with_reducible repeat first | exact HB.out | apply below_alloc | apply pw_below_drewN | apply below_drew1 | refine below_set ?_ GE277.out))
               (case aF => exact (fun k_ hk => ⟨Kd.fresh' (Kd.R_lt (by (with_reducible repeat (first | apply Kd.R_alloc | apply Kd.R_drewN | apply Kd.R_drew)); exact HO_6.out)) k_ hk, Kd.freshB (g := gb277) (o := .cells #[.bool a1_0, .int .i64 a1_1, .string a1_2, .int .i64 a1_3, .int .i64 a1_4, .int .i64 a1_5, .bool a1_6, .int .i64 a1_7, .string a1_8, .bool a1_9, .int .i64 a1_10, .string a1_11] 49 (0, 0)) (by (with_reducible repeat (first | refine blk_drewN ?_ _ | refine blk_drew ?_ | refine blk_alloc ?_ _)); exact BK277.out) k_ hk⟩))
               (case aO => exact (by repeat (first | exact (by repeat (first | (with_reducible exact HR299.out) | (with_reducible refine Kd.C_alloc ?_ _) | (with_reducible refine Kd.C_drewN ?_ _) | (with_reducible refine Kd.C_drew ?_) | exact HR299.out)) | (with_reducible refine Kd.C_alloc ?_ _) | (with_reducible refine Kd.C_drewN ?_ _) | (with_reducible refine Kd.C_drew ?_))))
               (case aS => exact (below_size (by with_reducible repeat first | exact HB.out | apply below_alloc | apply pw_below_drewN | apply below_drew1 | refine below_set ?_ GE277.out)))
               (case aL => have := LMc32.out; omega)
               intro v301 w40 ho hb hg hat
               rw [← Ny300.out] at ho
               have n0_ := Aside0.mk (Kd.R_after (Kd.R_apart_nil (by (with_reducible repeat (first | apply Kd.R_alloc | apply Kd.R_drewN | apply Kd.R_drew)); exact HO_6.out)) hg hat)
               have n1_ := Aside0.mk (blk_grown (g := gb277) (o := .cells #[.bool a1_0, .int .i64 a1_1, .string a1_2, .int .i64 a1_3, .int .i64 a1_4, .int .i64 a1_5, .bool a1_6, .int .i64 a1_7, .string a1_8, .bool a1_9, .int .i64 a1_10, .string a1_11] 49 (0, 0)) (by (with_reducible repeat (first | refine blk_drewN ?_ _ | refine blk_drew ?_ | refine blk_alloc ?_ _)); exact BK277.out) hg (by simp [Value.ownBlock]))
               have n2_ := Aside0.mk (hb)
               have n3_ := Aside0.mk ((show Kd.C k49 w40 Ao38 y296.length y296 from by rw [Ny296.out]; exact Kd.C_take (m := (x5_1 : Int).toNat) ((Kd.R_reads' (Kd.R_after (Kd.R_apart_nil (by (with_reducible repeat (first | apply Kd.R_alloc | apply Kd.R_drewN | apply Kd.R_drew)); exact HO_6.out)) hg hat)).2.2) KL37.out))
               have n4_ := Aside0.mk (ho)
               clear HO_6
               clear BK277
               clear HB
               clear HR299
               have HO_6 := n0_
               have BK277 := n1_
               have HB := n2_
               have HR299 := n3_
               have HO302 := n4_
               clear n0_ n1_ n2_ n3_ n4_
               clear ho hb hg hat
               refine hK.out _ _ ⟨(blk_cell BK277.out 0).trans rfl, (blk_cell BK277.out 1).trans rfl, (blk_cell BK277.out 2).trans rfl, (blk_cell BK277.out 3).trans rfl, (blk_cell BK277.out 4).trans rfl, (blk_cell BK277.out 5).trans rfl, (blk_cell BK277.out 6).trans rfl, (blk_cell BK277.out 7).trans rfl, (blk_cell BK277.out 8).trans rfl, (blk_cell BK277.out 9).trans rfl, (blk_cell BK277.out 10).trans rfl, (blk_cell BK277.out 11).trans rfl⟩ (fun hHeld => ?_)
               clear hK K
               refine norm_ (a' := ?_) ?_ ?_
               rotate_left
               ·show Act.put _ (some 59) _ = _
                simp only [Act.put, List.setIfInBounds_toArray, List.set_cons_zero, List.set_cons_succ, i64_w, i32_w]
                rfl
               refine one_ (i := 10) (N := some 63) #[true, true, true, true, true, true, true, true, true, true, true, false] rfl rfl (one_of HT_.out (by kernel_rfl)) (by decide) (fun K hK => ?_)
               refine Kd.R_append_rows_step k49 (w0 := w) w.heap.size (by rfl) (.tmp 59) (.tmp 62) 44 49 (.agg #[(.bool false), (.int .i64 0), (.string ⟨#[]⟩), (.int .i64 0), (.int .i64 0), (.int .i64 0), (.bool false), (.int .i64 0), (.string ⟨#[]⟩), (.bool false), (.int .i64 0), (.string ⟨#[]⟩)]) 120 rfl Try.underlying44 info49 rfl (by decide) (by omega) v301 y300 y303 _ _ _ (fun k_ => some k_ ≠ (.slice Ao38 y280.length co38 : Value).ownBlock ∧ k_ ≠ gb277) (fun _ => False) rfl rfl ?aO ?aR (fun _ _ h => h) (fun _ h => h.elim) ?aF ?aB ?aS ?aL ?_
               (case aR => repeat (first | exact (Kd.C_below HR306.out HB.out) | (with_reducible refine Kd.C_alloc ?_ _) | (with_reducible refine Kd.C_drewN ?_ _) | (with_reducible refine Kd.C_drew ?_)))
               (case aB => exact (by with_reducible repeat first | exact HB.out | apply below_alloc | apply pw_below_drewN | apply below_drew1 | refine below_set ?_ GE277.out))
               (case aF => exact (fun k_ hk => ⟨Kd.fresh' (Kd.R_lt (by (with_reducible repeat (first | apply Kd.R_alloc | apply Kd.R_drewN | apply Kd.R_drew)); exact HO_6.out)) k_ hk, Kd.freshB (g := gb277) (o := .cells #[.bool a1_0, .int .i64 a1_1, .string a1_2, .int .i64 a1_3, .int .i64 a1_4, .int .i64 a1_5, .bool a1_6, .int .i64 a1_7, .string a1_8, .bool a1_9, .int .i64 a1_10, .string a1_11] 49 (0, 0)) (by (with_reducible repeat (first | refine blk_drewN ?_ _ | refine blk_drew ?_ | refine blk_alloc ?_ _)); exact BK277.out) k_ hk⟩))
               (case aO => exact (by (with_reducible repeat (first | apply Kd.R_alloc | apply Kd.R_drewN | apply Kd.R_drew)); exact HO302.out))
               (case aS => exact (below_size (by with_reducible repeat first | exact HB.out | apply below_alloc | apply pw_below_drewN | apply below_drew1 | refine below_set ?_ GE277.out)))
               (case aL => have := LMc35.out; omega)
               intro v308 w41 ho hb hg hat
               rw [← Ny307.out] at ho
               have n0_ := Aside0.mk (Kd.R_after (ok := (fun k_ => k_ ≠ gb277)) (by (with_reducible repeat (first | apply Kd.R_alloc | apply Kd.R_drewN | apply Kd.R_drew)); exact HO_6.out) hg hat)
               have n1_ := Aside0.mk (blk_grown (g := gb277) (o := .cells #[.bool a1_0, .int .i64 a1_1, .string a1_2, .int .i64 a1_3, .int .i64 a1_4, .int .i64 a1_5, .bool a1_6, .int .i64 a1_7, .string a1_8, .bool a1_9, .int .i64 a1_10, .string a1_11] 49 (0, 0)) (by (with_reducible repeat (first | refine blk_drewN ?_ _ | refine blk_drew ?_ | refine blk_alloc ?_ _)); exact BK277.out) hg (Kd.R_away HO302.out (fun _ hk => hk.2)))
               have n2_ := Aside0.mk (hb)
               have n3_ := Aside0.mk ((show Kd.C k49 w41 Ao38 y296.length y296 from by rw [Ny296.out]; exact Kd.C_take (m := (x5_1 : Int).toNat) ((Kd.R_reads' (Kd.R_after (ok := (fun k_ => k_ ≠ gb277)) (by (with_reducible repeat (first | apply Kd.R_alloc | apply Kd.R_drewN | apply Kd.R_drew)); exact HO_6.out) hg hat)).2.2) KL37.out))
               have n4_ := Aside0.mk (ho)
               clear HO_6
               clear BK277
               clear HB
               clear HR299
               clear HO302
               have HO_6 := n0_
               have BK277 := n1_
               have HB := n2_
               have HR299 := n3_
               have HO309 := n4_
               clear n0_ n1_ n2_ n3_ n4_
               clear ho hb hg hat
               refine hK.out _ _ ⟨(blk_cell BK277.out 0).trans rfl, (blk_cell BK277.out 1).trans rfl, (blk_cell BK277.out 2).trans rfl, (blk_cell BK277.out 3).trans rfl, (blk_cell BK277.out 4).trans rfl, (blk_cell BK277.out 5).trans rfl, (blk_cell BK277.out 6).trans rfl, (blk_cell BK277.out 7).trans rfl, (blk_cell BK277.out 8).trans rfl, (blk_cell BK277.out 9).trans rfl, (blk_cell BK277.out 10).trans rfl, (blk_cell BK277.out 11).trans rfl⟩ (fun hHeld => ?_)
               clear hK K
               refine norm_ (a' := ?_) ?_ ?_
               rotate_left
               ·show Act.put _ (some 63) _ = _
                simp only [Act.put, List.setIfInBounds_toArray, List.set_cons_zero, List.set_cons_succ, i64_w, i32_w]
                rfl
               refine pure_ (i := 11) (N := some 4) (v := ?_) (a' := ?_) #[true, true, true, true, true, true, true, true, true, true, true, true] rfl rfl (any_of HT_.out (by kernel_rfl)) (fun _ _ _ h => h) (Or.inl ⟨by rfl, ?_⟩) ?_ ?_
               rotate_left
               ·intro w'
                go_simp
                with_reducible rfl
               rotate_left
               ·simp only [Act.put, List.setIfInBounds_toArray, List.set_cons_zero, List.set_cons_succ, i64_w, i32_w]
                rfl
               refine done_ (done_of HT_.out (by kernel_rfl)) ?_
               try go_wp2
               go_ret
               exact ⟨_, by first | rfl | (simp [errW_none, errW_some] <;> rfl) | (simp [*, errW_none, errW_some] <;> rfl), by (with_reducible repeat (first | apply Kd.R_alloc | apply Kd.R_drewN | apply Kd.R_drew)); exact Kd.R_mono HO309.out (fun _ hk => trivial), by repeat (first | (with_reducible first | exact HB.out | apply below_alloc | apply pw_below_drewN | apply below_drew1 | refine below_set ?_ GE277.out) | exact HB.out)⟩
              ·rw [if_neg c35] at H
               exact absurd H (by simp)
             ·rw [if_neg c34] at H
              exact absurd H (by simp)
            ·rw [if_neg c32] at H
             exact absurd H (by simp)
           ·rw [if_neg c31] at H
            exact absurd H (by simp)
          ·rw [if_neg c30] at H
           exact absurd H (by simp)
      ·rw [if_neg c12] at H
       exact absurd H (by simp)

end Go.Proofs.Ythlelhndmnkmjaa.Pr
