-- printed by xprint.py
import Derived.Test.YtcbgcmaioicdbaaPr0
import Derived.Test.YtcbgcmaioicdbaaPrf23
import Derived.Test.YtcbgcmaioicdbaaPrf37
import Derived.Test.YtcbgcmaioicdbaaPrf38
import Derived.Test.YtcbgcmaioicdbaaPrf39
import Derived.Test.YtcbgcmaioicdbaaPrf40
namespace Go.Proofs.Ytcbgcmaioicdbaa.Pr
open Go.RowKit Go.Proofs.YtcbgcmaioicdbaaW PrintWords PrintLast PrintMore
set_option linter.unusedVariables false
set_option linter.unusedSimpArgs false

/-! ### tithebarnref17_Pick: function 11 -/
mutual
def tithebarnref17_Pick.j1 : Nat → List (S38) → Int → Option (Int × Int × List Int × Bool × Bool)
 | 0, _, _ => none
 | k + 1, x0, x4 => if x4 = 3 then (some (0, 0, ([] : List Int), false, false)) else ((tithebarnref17_chosen.f k x0 x4).bind fun t265 => ((tithebarnref17_span.f k t265).bind fun bt268 => ((tithebarnref17_below.f k x0 (wrap64 (x4 + 1)) bt268.1 bt268.2.1 bt268.2.2.1 bt268.2.2.2.1 bt268.2.2.2.2.1 bt268.2.2.2.2.2.1 bt268.2.2.2.2.2.2.1 bt268.2.2.2.2.2.2.2).bind fun t276 => (tithebarnref17_Pick.l1 k x0 x4 t265 t276 0 x4 (wrap64 (x4 + 1)) ([] : List Int) true))))
def tithebarnref17_Pick.l1 : Nat → List (S38) → Int → List (S38) → List (S38) → Int → Int → Int → List Int → Bool → Option (Int × Int × List Int × Bool × Bool)
 | 0, _, _, _, _, _, _, _, _, _ => none
 | k + 1, x0, x4, x5, x6, x8, x280000, x280001, x280002, x280003 => if x8 < (x5.length : Int) then (if 0 ≤ x8 then (if x280002.length < 17592186044416 then (tithebarnref17_Pick.l1 k x0 x4 x5 x6 (wrap64 (x8 + 1)) x280000 x280001 (x280002 ++ [(rd_T38 x5 x8).f0]) x280003) else (none)) else (none)) else (tithebarnref17_Pick.l2 k x0 x4 x6 0 x280000 x280001 x280002 x280003)
def tithebarnref17_Pick.l2 : Nat → List (S38) → Int → List (S38) → Int → Int → Int → List Int → Bool → Option (Int × Int × List Int × Bool × Bool)
 | 0, _, _, _, _, _, _, _, _ => none
 | k + 1, x0, x4, x6, x9, x280000, x280001, x280002, x280003 => if x9 < (x6.length : Int) then (if 0 ≤ x9 then (if x280002.length < 17592186044416 then (tithebarnref17_Pick.l2 k x0 x4 x6 (wrap64 (x9 + 1)) x280000 x280001 (x280002 ++ [(rd_T38 x6 x9).f0]) x280003) else (none)) else (none)) else (tithebarnref17_Pick.l3 k x0 x4 0 x280000 x280001 x280002 x280003)
def tithebarnref17_Pick.l3 : Nat → List (S38) → Int → Int → Int → Int → List Int → Bool → Option (Int × Int × List Int × Bool × Bool)
 | 0, _, _, _, _, _, _, _ => none
 | k + 1, x0, x4, x10, x280000, x280001, x280002, x280003 => if x10 < (x0.length : Int) then (if x280003 = true then (if 0 ≤ x10 then (tithebarnref17_Pick.l3 k x0 x4 (wrap64 (x10 + 1)) x280000 x280001 x280002 (decide (((rd_T38 x0 x10).f1) ≤ (wrap64 (x4 + 1))))) else (none)) else (tithebarnref17_Pick.l3 k x0 x4 (wrap64 (x10 + 1)) x280000 x280001 x280002 false)) else (some (x280000, x280001, x280002, x280003, true))
def tithebarnref17_Pick.l0 : Nat → List (S38) → Int → Option (Int × Int × List Int × Bool × Bool)
 | 0, _, _ => none
 | k + 1, x0, x4 => if x4 < 3 then ((tithebarnref17_Of.f k x0 x4).bind fun t261 => ((tithebarnref17_Limit.f x4).bind fun t264 => (if (t261.length : Int) ≤ t264 then (tithebarnref17_Pick.l0 k x0 (wrap64 (x4 + 1))) else (tithebarnref17_Pick.j1 k x0 x4)))) else (tithebarnref17_Pick.j1 k x0 x4)
end
def tithebarnref17_Pick.f (k : Nat) (l0 : List (S38)) : Option (Int × Int × List Int × Bool × Bool) := tithebarnref17_Pick.l0 k l0 0
theorem tithebarnref17_Pick.mono_l : ∀ k, (∀ y0 y1, LeO (tithebarnref17_Pick.j1 k y0 y1) (tithebarnref17_Pick.j1 (k + 1) y0 y1)) ∧ (∀ y0 y1 y2 y3 y4 y5 y6 y7 y8, LeO (tithebarnref17_Pick.l1 k y0 y1 y2 y3 y4 y5 y6 y7 y8) (tithebarnref17_Pick.l1 (k + 1) y0 y1 y2 y3 y4 y5 y6 y7 y8)) ∧ (∀ y0 y1 y2 y3 y4 y5 y6 y7, LeO (tithebarnref17_Pick.l2 k y0 y1 y2 y3 y4 y5 y6 y7) (tithebarnref17_Pick.l2 (k + 1) y0 y1 y2 y3 y4 y5 y6 y7)) ∧ (∀ y0 y1 y2 y3 y4 y5 y6, LeO (tithebarnref17_Pick.l3 k y0 y1 y2 y3 y4 y5 y6) (tithebarnref17_Pick.l3 (k + 1) y0 y1 y2 y3 y4 y5 y6)) ∧ (∀ y0 y1, LeO (tithebarnref17_Pick.l0 k y0 y1) (tithebarnref17_Pick.l0 (k + 1) y0 y1))
 | 0 => ⟨fun _ _ r h => by simp [tithebarnref17_Pick.j1] at h, fun _ _ _ _ _ _ _ _ _ r h => by simp [tithebarnref17_Pick.l1] at h, fun _ _ _ _ _ _ _ _ r h => by simp [tithebarnref17_Pick.l2] at h, fun _ _ _ _ _ _ _ r h => by simp [tithebarnref17_Pick.l3] at h, fun _ _ r h => by simp [tithebarnref17_Pick.l0] at h⟩
 | k + 1 => by
  obtain ⟨ih0, ih1, ih2, ih3, ih4⟩ := tithebarnref17_Pick.mono_l k
  refine ⟨?_, ?_, ?_, ?_, ?_⟩
  ·intro y0 y1
   unfold tithebarnref17_Pick.j1
   repeat' first
   | (with_reducible exact ih0 _ _)
   | (with_reducible exact ih1 _ _ _ _ _ _ _ _ _)
   | (with_reducible exact ih2 _ _ _ _ _ _ _ _)
   | (with_reducible exact ih3 _ _ _ _ _ _ _)
   | (with_reducible exact ih4 _ _)
   | (with_reducible exact tithebarnref17_Of.mono _ _ _)
   | (with_reducible exact tithebarnref17_below.mono _ _ _ _ _ _ _ _ _ _ _)
   | (with_reducible exact tithebarnref17_chosen.mono _ _ _)
   | (with_reducible exact tithebarnref17_span.mono _ _)
   | (with_reducible exact LeO.refl _)
   | (with_reducible exact LeO.none _)
   | (with_reducible refine LeO.ite ?_ ?_)
   | (with_reducible refine LeO.bind ?_ (fun _ => ?_))
  ·intro y0 y1 y2 y3 y4 y5 y6 y7 y8
   unfold tithebarnref17_Pick.l1
   repeat' first
   | (with_reducible exact ih0 _ _)
   | (with_reducible exact ih1 _ _ _ _ _ _ _ _ _)
   | (with_reducible exact ih2 _ _ _ _ _ _ _ _)
   | (with_reducible exact ih3 _ _ _ _ _ _ _)
   | (with_reducible exact ih4 _ _)
   | (with_reducible exact tithebarnref17_Of.mono _ _ _)
   | (with_reducible exact tithebarnref17_below.mono _ _ _ _ _ _ _ _ _ _ _)
   | (with_reducible exact tithebarnref17_chosen.mono _ _ _)
   | (with_reducible exact tithebarnref17_span.mono _ _)
   | (with_reducible exact LeO.refl _)
   | (with_reducible exact LeO.none _)
   | (with_reducible refine LeO.ite ?_ ?_)
   | (with_reducible refine LeO.bind ?_ (fun _ => ?_))
  ·intro y0 y1 y2 y3 y4 y5 y6 y7
   unfold tithebarnref17_Pick.l2
   repeat' first
   | (with_reducible exact ih0 _ _)
   | (with_reducible exact ih1 _ _ _ _ _ _ _ _ _)
   | (with_reducible exact ih2 _ _ _ _ _ _ _ _)
   | (with_reducible exact ih3 _ _ _ _ _ _ _)
   | (with_reducible exact ih4 _ _)
   | (with_reducible exact tithebarnref17_Of.mono _ _ _)
   | (with_reducible exact tithebarnref17_below.mono _ _ _ _ _ _ _ _ _ _ _)
   | (with_reducible exact tithebarnref17_chosen.mono _ _ _)
   | (with_reducible exact tithebarnref17_span.mono _ _)
   | (with_reducible exact LeO.refl _)
   | (with_reducible exact LeO.none _)
   | (with_reducible refine LeO.ite ?_ ?_)
   | (with_reducible refine LeO.bind ?_ (fun _ => ?_))
  ·intro y0 y1 y2 y3 y4 y5 y6
   unfold tithebarnref17_Pick.l3
   repeat' first
   | (with_reducible exact ih0 _ _)
   | (with_reducible exact ih1 _ _ _ _ _ _ _ _ _)
   | (with_reducible exact ih2 _ _ _ _ _ _ _ _)
   | (with_reducible exact ih3 _ _ _ _ _ _ _)
   | (with_reducible exact ih4 _ _)
   | (with_reducible exact tithebarnref17_Of.mono _ _ _)
   | (with_reducible exact tithebarnref17_below.mono _ _ _ _ _ _ _ _ _ _ _)
   | (with_reducible exact tithebarnref17_chosen.mono _ _ _)
   | (with_reducible exact tithebarnref17_span.mono _ _)
   | (with_reducible exact LeO.refl _)
   | (with_reducible exact LeO.none _)
   | (with_reducible refine LeO.ite ?_ ?_)
   | (with_reducible refine LeO.bind ?_ (fun _ => ?_))
  ·intro y0 y1
   unfold tithebarnref17_Pick.l0
   repeat' first
   | (with_reducible exact ih0 _ _)
   | (with_reducible exact ih1 _ _ _ _ _ _ _ _ _)
   | (with_reducible exact ih2 _ _ _ _ _ _ _ _)
   | (with_reducible exact ih3 _ _ _ _ _ _ _)
   | (with_reducible exact ih4 _ _)
   | (with_reducible exact tithebarnref17_Of.mono _ _ _)
   | (with_reducible exact tithebarnref17_below.mono _ _ _ _ _ _ _ _ _ _ _)
   | (with_reducible exact tithebarnref17_chosen.mono _ _ _)
   | (with_reducible exact tithebarnref17_span.mono _ _)
   | (with_reducible exact LeO.refl _)
   | (with_reducible exact LeO.none _)
   | (with_reducible refine LeO.ite ?_ ?_)
   | (with_reducible refine LeO.bind ?_ (fun _ => ?_))
theorem tithebarnref17_Pick.mono : ∀ a0 k, LeO (tithebarnref17_Pick.f k a0) (tithebarnref17_Pick.f (k + 1) a0) := by
 intro a0 k
 obtain ⟨ih0, ih1, ih2, ih3, ih4⟩ := tithebarnref17_Pick.mono_l k
 unfold tithebarnref17_Pick.f
 repeat' first
   | (with_reducible exact ih0 _ _)
   | (with_reducible exact ih1 _ _ _ _ _ _ _ _ _)
   | (with_reducible exact ih2 _ _ _ _ _ _ _ _)
   | (with_reducible exact ih3 _ _ _ _ _ _ _)
   | (with_reducible exact ih4 _ _)
   | (with_reducible exact tithebarnref17_Of.mono _ _ _)
   | (with_reducible exact tithebarnref17_below.mono _ _ _ _ _ _ _ _ _ _ _)
   | (with_reducible exact tithebarnref17_chosen.mono _ _ _)
   | (with_reducible exact tithebarnref17_span.mono _ _)
   | (with_reducible exact LeO.refl _)
   | (with_reducible exact LeO.none _)
   | (with_reducible refine LeO.ite ?_ ?_)
   | (with_reducible refine LeO.bind ?_ (fun _ => ?_))
def tithebarnref17_Pick.T12 : Bool × List (List Nat × List Nat) := (true, [([], []), ([0], [0]), ([], []), ([], []), ([2, 3], [2, 3]), ([4], [4]), ([5], [5]), ([6], [6]), ([1, 7], [1, 7]), ([0, 1, 2, 3, 4, 5, 6, 7, 8], []), ([9, 8, 8, 0, 1, 2, 3, 4, 5, 6, 7, 8], [8, 9])])
def tithebarnref17_Pick.B12 : List Nat := [0, 1, 0, 0, 12, 28, 60, 124, 255, 511, 1023]
theorem tithebarnref17_Pick.tab12 : rtab .any (opsOf Try.f11 12) = tithebarnref17_Pick.T12 := by kernel_rfl
theorem tithebarnref17_Pick.bits12 : waitsOk tithebarnref17_Pick.T12.2 tithebarnref17_Pick.B12 = true := by kernel_rfl
def tithebarnref17_Pick.T16 : Bool × List (List Nat × List Nat) := (true, [([], []), ([0], [0]), ([], []), ([], []), ([2, 3], [2, 3]), ([4], [4]), ([5], [5]), ([6], [6]), ([1, 7], [1, 7]), ([0, 1, 2, 3, 4, 5, 6, 7, 8], []), ([9, 8, 8, 0, 1, 2, 3, 4, 5, 6, 7, 8], [8, 9])])
def tithebarnref17_Pick.B16 : List Nat := [0, 1, 0, 0, 12, 28, 60, 124, 255, 511, 1023]
theorem tithebarnref17_Pick.tab16 : rtab .any (opsOf Try.f11 16) = tithebarnref17_Pick.T16 := by kernel_rfl
theorem tithebarnref17_Pick.bits16 : waitsOk tithebarnref17_Pick.T16.2 tithebarnref17_Pick.B16 = true := by kernel_rfl
set_option maxHeartbeats 8000000 in
set_option maxRecDepth 100000 in
theorem tithebarnref17_Pick.calls (k : Nat) (A0 : Option Addr) (c0 : Nat) (l0 : List (S38)) (r1 : Int) (r2 : Int) (r3 : List Int) (r4 : Bool) (r5 : Bool) (w : World) (hr0 : Kd.C k38 w A0 l0.length l0) (hc0 : l0.length ≤ c0) (h : tithebarnref17_Pick.f k l0 = some (r1, r2, r3, r4, r5)) :
  Calls Try.prog 11 #[.slice A0 l0.length c0] w fun e w' => ∃ v2_ : Value, e = .returned (.tuple #[.agg #[.int .i64 r1, .int .i64 r2, v2_, .bool r4], .bool r5]) ∧ Kd.R (Kd.int .i64) 3 w' w.heap.size (fun _ => True) v2_ r3 ∧ Below w.heap.size w w' := by
 have hu30 := Try.underlying30
 have HR0 := Aside0.mk hr0
 have HC0 := Aside0.mk hc0
 clear hr0 hc0
 have HB := Aside0.mk (Below.refl w.heap.size w)
 have H : (tithebarnref17_Pick.l0 k l0 0) = some (r1, r2, r3, r4, r5) := h
 clear h
 have HC2 := Aside0.mk H
 clear H
 go_enter Try.func11, Try.ntmps11
 go_upto_block 0 with (first | ((with_reducible refine gate_dst (N := 2) rfl ?_); (try (refine gate_guard (by rfl) ?_; dsimp only)); refine box_event ?hg (N := 2) ?hd (cs := #[.int .i64 0, .int .i64 0, .slice none 0 0, .bool false]) (t := 30) ?hr ?_; (case hd => rfl); (case hg => rfl); (case hr => first | (go_simp; done) | (go_simp; rfl)); intro gb260 hg w3 hbox hb; have n0_ := Aside0.mk (below_step (by with_reducible repeat first | exact HB.out | apply below_alloc | apply pw_below_drewN | apply below_drew1) hb); have n1_ := Aside0.mk (hbox); have n2_ := Aside0.mk ((by rw [hg]; exact (below_size (by with_reducible repeat first | exact HB.out | apply below_alloc | apply pw_below_drewN | apply below_drew1)) : w.heap.size ≤ gb260)); have n3_ := Aside0.mk ((by rw [hg]; exact (below_size (by with_reducible repeat first | exact HB.out | apply below_alloc | apply pw_below_drewN | apply below_drew1)) : w.heap.size ≤ gb260)); clear HB; have HB := n0_; have BK260 := n1_; have GW260 := n2_; have GE260 := n3_; clear n0_ n1_ n2_ n3_; clear hb hbox hg))
 (try simp only [Act.put, List.setIfInBounds_toArray, List.set_cons_zero, List.set_cons_succ])
 go_cut [4] (fun v4 wc => ∃ (kq : Nat) (x4_1 : Int), v4 = .int .i64 x4_1 ∧ Aside0 (tithebarnref17_Pick.j1 kq l0 x4_1 = some (r1, r2, r3, r4, r5)) ∧ Aside0 (kq ≤ k) ∧ Aside0 (wc.heap[gb260]? = some (.cells #[.int .i64 0, .int .i64 0, (.slice none 0 0), .bool false] 30 (0, 0))) ∧ Aside0 (Below w.heap.size w wc))
 case first =>
  have H := HC2.out
  clear HC2
  have H' := Aside0.mk H
  clear H
  go_wp2
  go_loopg [4] k (fun kq v4 w' => ∃ (x4_1 : Int), v4 = .int .i64 x4_1 ∧ Aside0 (tithebarnref17_Pick.l0 kq l0 x4_1 = some (r1, r2, r3, r4, r5)) ∧ Aside0 (kq ≤ k) ∧ Aside0 (w'.heap[gb260]? = some (.cells #[.int .i64 0, .int .i64 0, (.slice none 0 0), .bool false] 30 (0, 0))) ∧ Aside0 (Below w.heap.size w w'))
  case atStart => exact ⟨(0), (by first | rfl | (simp; done) | (simp [*]; done)), H', ⟨Nat.le_refl _⟩, ⟨by (with_reducible repeat (first | refine blk_drewN ?_ _ | refine blk_drew ?_ | refine blk_alloc ?_ _)); exact BK260.out⟩, ⟨by repeat (first | (with_reducible first | exact HB.out | apply below_alloc | apply pw_below_drewN | apply below_drew1 | refine below_set ?_ GE260.out) | exact HB.out)⟩⟩
  case round =>
   clear H'
   try clear c1
   try clear p2
   obtain ⟨x4_1, rfl, HA, HK1, BK260, HB⟩ := hrel
   cases gk with
   | zero => exact absurd HA.out (by simp [tithebarnref17_Pick.l0])
   | succ k1 =>
    have H := HA.out
    clear HA
    simp only [tithebarnref17_Pick.l0] at H
    by_cases c4 : x4_1 < 3
    ·rw [if_pos c4] at H
     have c4b0 : decide (x4_1 < 3) = true := decide_eq_true c4
     clear c4
     (first | rw [c4b0] | (simp only [i64_w, i32_w]; rw [c4b0]) | skip)
     replace H := Option.bind_eq_some_iff.mp H
     obtain ⟨t261, A50, H⟩ := H
     replace H : ((tithebarnref17_Limit.f x4_1).bind fun t264 => (if (t261.length : Int) ≤ t264 then (tithebarnref17_Pick.l0 k1 l0 (wrap64 (x4_1 + 1))) else (tithebarnref17_Pick.j1 k1 l0 x4_1))) = some (r1, r2, r3, r4, r5) := H
     have A5 := Aside0.mk A50
     clear A50
     replace H := Option.bind_eq_some_iff.mp H
     obtain ⟨t264, A60, H⟩ := H
     replace H : (if (t261.length : Int) ≤ t264 then (tithebarnref17_Pick.l0 k1 l0 (wrap64 (x4_1 + 1))) else (tithebarnref17_Pick.j1 k1 l0 x4_1)) = some (r1, r2, r3, r4, r5) := H
     have A6 := Aside0.mk A60
     clear A60
     by_cases c7 : (t261.length : Int) ≤ t264
     ·rw [if_pos c7] at H
      have c7b0 : decide ((t261.length : Int) ≤ t264) = true := decide_eq_true c7
      clear c7
      have H' := Aside0.mk H
      clear H
      go_wp2_with (first | (go_at_call 23; (with_reducible refine (tithebarnref17_Of.calls k1 _ _ l0 x4_1 t261 _ ?side1 ?side2 A5.out).mono ?_); (case side1 => repeat (first | exact (Kd.C_below HR0.out HB.out) | (with_reducible refine Kd.C_alloc ?_ _) | (with_reducible refine Kd.C_drewN ?_ _) | (with_reducible refine Kd.C_drew ?_))); (case side2 => exact HC0.out); rintro e w8 ⟨v262, rfl, ho0, hb⟩; have n0_ := Aside0.mk (Kd.R_lower ho0 (below_size (by with_reducible repeat first | exact HB.out | apply below_alloc | apply pw_below_drewN | apply below_drew1 | refine below_set ?_ GE260.out))); have n1_ := Aside0.mk (blk_below (g := gb260) (o := .cells #[.int .i64 0, .int .i64 0, .slice none 0 0, .bool false] 30 (0, 0)) (by (with_reducible repeat (first | refine blk_drewN ?_ _ | refine blk_drew ?_ | refine blk_alloc ?_ _)); exact BK260.out) hb); have n2_ := Aside0.mk (below_step (by with_reducible repeat first | exact HB.out | apply below_alloc | apply pw_below_drewN | apply below_drew1 | refine below_set ?_ GE260.out) hb); clear BK260; clear HB; have HO263 := n0_; have BK260 := n1_; have HB := n2_; clear n0_ n1_ n2_; (try clear hb); (try clear hb2); (try clear hk); (try clear hi); (try clear ho0); obtain ⟨Ao9, co9, eo9⟩ := Kd.R_slice HO263.out; subst eo9) | (go_at_call 37; (with_reducible refine (tithebarnref17_Limit.calls x4_1 t264 _ A6.out).mono ?_); rintro e w' ⟨rfl, ⟨nd, rfl⟩⟩))
      go_roundg k1
      case measure => have := HK1.out; omega
      case rel => exact ⟨(wrap64 (x4_1 + 1)), (by first | rfl | (simp; done) | (simp [*]; done)), H', ⟨by have := HK1.out; omega⟩, ⟨by (with_reducible repeat (first | refine blk_drewN ?_ _ | refine blk_drew ?_ | refine blk_alloc ?_ _)); exact BK260.out⟩, ⟨by repeat (first | (with_reducible first | exact HB.out | apply below_alloc | apply pw_below_drewN | apply below_drew1 | refine below_set ?_ GE260.out) | exact HB.out)⟩⟩
     ·rw [if_neg c7] at H
      have c7b0 : decide ((t261.length : Int) ≤ t264) = false := decide_eq_false c7
      clear c7
      have H' := Aside0.mk H
      clear H
      go_wp2_with (first | (go_at_call 23; (with_reducible refine (tithebarnref17_Of.calls k1 _ _ l0 x4_1 t261 _ ?side1 ?side2 A5.out).mono ?_); (case side1 => repeat (first | exact (Kd.C_below HR0.out HB.out) | (with_reducible refine Kd.C_alloc ?_ _) | (with_reducible refine Kd.C_drewN ?_ _) | (with_reducible refine Kd.C_drew ?_))); (case side2 => exact HC0.out); rintro e w10 ⟨v262, rfl, ho0, hb⟩; have n0_ := Aside0.mk (Kd.R_lower ho0 (below_size (by with_reducible repeat first | exact HB.out | apply below_alloc | apply pw_below_drewN | apply below_drew1 | refine below_set ?_ GE260.out))); have n1_ := Aside0.mk (blk_below (g := gb260) (o := .cells #[.int .i64 0, .int .i64 0, .slice none 0 0, .bool false] 30 (0, 0)) (by (with_reducible repeat (first | refine blk_drewN ?_ _ | refine blk_drew ?_ | refine blk_alloc ?_ _)); exact BK260.out) hb); have n2_ := Aside0.mk (below_step (by with_reducible repeat first | exact HB.out | apply below_alloc | apply pw_below_drewN | apply below_drew1 | refine below_set ?_ GE260.out) hb); clear BK260; clear HB; have HO263 := n0_; have BK260 := n1_; have HB := n2_; clear n0_ n1_ n2_; (try clear hb); (try clear hb2); (try clear hk); (try clear hi); (try clear ho0); obtain ⟨Ao11, co11, eo11⟩ := Kd.R_slice HO263.out; subst eo11) | (go_at_call 37; (with_reducible refine (tithebarnref17_Limit.calls x4_1 t264 _ A6.out).mono ?_); rintro e w' ⟨rfl, ⟨nd, rfl⟩⟩))
      go_meet
      case rel => exact ⟨_, (x4_1), (by first | rfl | (simp; done) | (simp [*]; done)), H', ⟨by have := HK1.out; first | omega | exact Nat.le_refl _⟩, ⟨by (with_reducible repeat (first | refine blk_drewN ?_ _ | refine blk_drew ?_ | refine blk_alloc ?_ _)); exact BK260.out⟩, ⟨by repeat (first | (with_reducible first | exact HB.out | apply below_alloc | apply pw_below_drewN | apply below_drew1 | refine below_set ?_ GE260.out) | exact HB.out)⟩⟩
    ·rw [if_neg c4] at H
     have c4b0 : decide (x4_1 < 3) = false := decide_eq_false c4
     clear c4
     (first | rw [c4b0] | (simp only [i64_w, i32_w]; rw [c4b0]) | skip)
     have H' := Aside0.mk H
     clear H
     go_wp2
     go_meet
     case rel => exact ⟨_, (x4_1), (by first | rfl | (simp; done) | (simp [*]; done)), H', ⟨by have := HK1.out; first | omega | exact Nat.le_refl _⟩, ⟨by (with_reducible repeat (first | refine blk_drewN ?_ _ | refine blk_drew ?_ | refine blk_alloc ?_ _)); exact BK260.out⟩, ⟨by repeat (first | (with_reducible first | exact HB.out | apply below_alloc | apply pw_below_drewN | apply below_drew1 | refine below_set ?_ GE260.out) | exact HB.out)⟩⟩
 case rest =>
  clear HC2
  try clear c1
  try clear p2
  try clear c4
  try clear c4b0
  try clear p6
  try clear c7
  try clear c7b0
  try clear c11
  try clear p2
  obtain ⟨kq, x4_1, rfl, HA, HJ1, BK260, HB⟩ := hcut
  cases kq with
  | zero => exact absurd HA.out (by simp [tithebarnref17_Pick.j1])
  | succ kj1 =>
   have H := HA.out
   clear HA
   simp only [tithebarnref17_Pick.j1] at H
   by_cases c12 : x4_1 = 3
   ·rw [if_pos c12] at H
    have c12b0 : (x4_1 == 3) = true := beq_iff_eq.mpr c12
    have c12b1 : (x4_1 != 3) = false := bne_eq_false_iff_eq.mpr c12
    clear c12
    simp only [Option.some.injEq, Prod.mk.injEq] at H
    obtain ⟨rfl, rfl, rfl, rfl, rfl⟩ := H
    obtain ⟨hcz13_0, hcz13_1, hcz13_2, hcz13_3⟩ := bc4 BK260.out
    obtain ⟨hfz13_0, hfz13_1, hfz13_2, hfz13_3⟩ := bf4 BK260.out
    go_wp2
    refine bodyPost_ret (results_ct rfl _ _ gb260 30 #[.int .i64 0, .int .i64 0, .slice none 0 0, .bool false] (0, 0) _ rfl (by refine blk_put (cs := #[.int .i64 0, .int .i64 0, .slice none 0 0, .bool false]) ?_ 3 _ rfl; refine blk_put (cs := #[.int .i64 0, .int .i64 0, .slice none 0 0, .bool false]) ?_ 2 _ rfl; refine blk_put (cs := #[.int .i64 0, .int .i64 0, .slice none 0 0, .bool false]) ?_ 1 _ rfl; refine blk_put (cs := #[.int .i64 0, .int .i64 0, .slice none 0 0, .bool false]) ?_ 0 _ rfl; (with_reducible repeat (first | refine blk_drewN ?_ _ | refine blk_drew ?_ | refine blk_alloc ?_ _)); exact BK260.out) Try.underlying30 rfl (by kernel_rfl)) rfl ?_
    exact ⟨_, by first | rfl | (simp [errW_none, errW_some] <;> rfl) | (simp [*, errW_none, errW_some] <;> rfl), by first | exact Kd.R_nil _ _ _ _ _ | exact Kd.N_nil _ _ _ _ _ | exact Kd.V_nil _ _ _ _ _ | exact Kd.Q_nil _ _ _ _ _ | exact Kd.S_nil _ _ _ _ _, by repeat (first | (with_reducible first | exact HB.out | apply below_alloc | apply pw_below_drewN | apply below_drew1 | refine below_set ?_ GE260.out) | exact HB.out)⟩
   ·rw [if_neg c12] at H
    have c12b0 : (x4_1 == 3) = false := beq_eq_false_iff_ne.mpr c12
    have c12b1 : (x4_1 != 3) = true := bne_iff_ne.mpr c12
    replace H := Option.bind_eq_some_iff.mp H
    obtain ⟨t265, A140, H⟩ := H
    replace H : ((tithebarnref17_span.f kj1 t265).bind fun bt268 => ((tithebarnref17_below.f kj1 l0 (wrap64 (x4_1 + 1)) bt268.1 bt268.2.1 bt268.2.2.1 bt268.2.2.2.1 bt268.2.2.2.2.1 bt268.2.2.2.2.2.1 bt268.2.2.2.2.2.2.1 bt268.2.2.2.2.2.2.2).bind fun t276 => (tithebarnref17_Pick.l1 kj1 l0 x4_1 t265 t276 0 x4_1 (wrap64 (x4_1 + 1)) ([] : List Int) true))) = some (r1, r2, r3, r4, r5) := H
    have A14 := Aside0.mk A140
    clear A140
    replace H := Option.bind_eq_some_iff.mp H
    obtain ⟨⟨t268, t269, t270, t271, t272, t273, t274, t275⟩, A150, H⟩ := H
    replace H : ((tithebarnref17_below.f kj1 l0 (wrap64 (x4_1 + 1)) t268 t269 t270 t271 t272 t273 t274 t275).bind fun t276 => (tithebarnref17_Pick.l1 kj1 l0 x4_1 t265 t276 0 x4_1 (wrap64 (x4_1 + 1)) ([] : List Int) true)) = some (r1, r2, r3, r4, r5) := H
    have A15 := Aside0.mk A150
    clear A150
    replace H := Option.bind_eq_some_iff.mp H
    obtain ⟨t276, A160, H⟩ := H
    replace H : (tithebarnref17_Pick.l1 kj1 l0 x4_1 t265 t276 0 x4_1 (wrap64 (x4_1 + 1)) ([] : List Int) true) = some (r1, r2, r3, r4, r5) := H
    have A16 := Aside0.mk A160
    clear A160
    have H' := Aside0.mk H
    clear H
    go_wp2_with (first | ((with_reducible refine gate_callee (f := 38) rfl ?_); refine goesL_ (some 29) rfl rfl Try.func38 (by kernel_rfl) rfl #[.slice A0 l0.length c0, .int .i64 x4_1] rfl (by (try simp only [List.map_toArray, List.map_cons, List.map_nil]); first | done | rfl | (simp only [List.length_drop, List.length_take]; rfl)) ?_; (with_reducible refine (tithebarnref17_chosen.calls kj1 _ _ l0 x4_1 t265 _ ?side1 ?side2 A14.out).mono ?_); (case side1 => repeat (first | exact (Kd.C_below HR0.out HB.out) | (with_reducible refine Kd.C_alloc ?_ _) | (with_reducible refine Kd.C_drewN ?_ _) | (with_reducible refine Kd.C_drew ?_))); (case side2 => exact HC0.out); rintro e w17 ⟨v266, rfl, ho0, hb⟩; refine ⟨_, rfl, ?_⟩; have n0_ := Aside0.mk (Kd.R_lower ho0 (below_size (by with_reducible repeat first | exact HB.out | apply below_alloc | apply pw_below_drewN | apply below_drew1 | refine below_set ?_ GE260.out))); have n1_ := Aside0.mk (blk_below (g := gb260) (o := .cells #[.int .i64 0, .int .i64 0, .slice none 0 0, .bool false] 30 (0, 0)) (by (with_reducible repeat (first | refine blk_drewN ?_ _ | refine blk_drew ?_ | refine blk_alloc ?_ _)); exact BK260.out) hb); have n2_ := Aside0.mk (below_step (by with_reducible repeat first | exact HB.out | apply below_alloc | apply pw_below_drewN | apply below_drew1 | refine below_set ?_ GE260.out) hb); clear BK260; clear HB; have HO267 := n0_; have BK260 := n1_; have HB := n2_; clear n0_ n1_ n2_; (try clear hb); (try clear hb2); (try clear hk); (try clear hi); (try clear ho0); obtain ⟨Ao18, co18, eo18⟩ := Kd.R_slice HO267.out; subst eo18) | ((with_reducible refine gate_callee (f := 40) rfl ?_); refine goesL_ (some 34) rfl rfl Try.func40 (by kernel_rfl) rfl #[.slice Ao18 t265.length co18] rfl (by (try simp only [List.map_toArray, List.map_cons, List.map_nil]); first | done | rfl | (simp only [List.length_drop, List.length_take]; rfl)) ?_; (with_reducible refine (tithebarnref17_span.calls kj1 _ _ t265 t268 t269 t270 t271 t272 t273 t274 t275 _ ?side1 ?side2 A15.out).mono ?_); (case side1 => repeat (first | exact (Kd.R_reads' HO267.out).2.2 | (with_reducible refine Kd.C_alloc ?_ _) | (with_reducible refine Kd.C_drewN ?_ _) | (with_reducible refine Kd.C_drew ?_))); (case side2 => exact (Kd.R_reads' HO267.out).2.1); rintro e w19 ⟨rfl, hb⟩; refine ⟨_, rfl, ?_⟩; have n0_ := Aside0.mk (Kd.R_below (by (with_reducible repeat (first | apply Kd.R_alloc | apply Kd.R_drewN | apply Kd.R_drew)); exact HO267.out) hb); have n1_ := Aside0.mk (blk_below (g := gb260) (o := .cells #[.int .i64 0, .int .i64 0, .slice none 0 0, .bool false] 30 (0, 0)) (by (with_reducible repeat (first | refine blk_drewN ?_ _ | refine blk_drew ?_ | refine blk_alloc ?_ _)); exact BK260.out) hb); have n2_ := Aside0.mk (below_step (by with_reducible repeat first | exact HB.out | apply below_alloc | apply pw_below_drewN | apply below_drew1 | refine below_set ?_ GE260.out) hb); clear HO267; clear BK260; clear HB; have HO267 := n0_; have BK260 := n1_; have HB := n2_; clear n0_ n1_ n2_; (try clear hb); (try clear hb2); (try clear hk); (try clear hi)) | ((with_reducible refine gate_callee (f := 39) rfl ?_); refine goesL_ (some 35) rfl rfl Try.func39 (by kernel_rfl) rfl #[.slice A0 l0.length c0, .int .i64 (wrap64 (x4_1 + 1)), .agg #[.int .i64 t268, .int .i64 t269, .bool t270, .int .i64 t271, .string t272, .bool t273, .int .i64 t274, .string t275]] rfl (by (try simp only [List.map_toArray, List.map_cons, List.map_nil]); first | done | rfl | (simp only [List.length_drop, List.length_take]; rfl)) ?_; (with_reducible refine (tithebarnref17_below.calls kj1 _ _ l0 (wrap64 (x4_1 + 1)) t268 t269 t270 t271 t272 t273 t274 t275 t276 _ ?side1 ?side2 A16.out).mono ?_); (case side1 => repeat (first | exact (Kd.C_below HR0.out HB.out) | (with_reducible refine Kd.C_alloc ?_ _) | (with_reducible refine Kd.C_drewN ?_ _) | (with_reducible refine Kd.C_drew ?_))); (case side2 => exact HC0.out); rintro e w20 ⟨v277, rfl, ho0, hb⟩; refine ⟨_, rfl, ?_⟩; have n0_ := Aside0.mk (Kd.R_elder' (by (with_reducible repeat (first | apply Kd.R_alloc | apply Kd.R_drewN | apply Kd.R_drew)); exact HO267.out) (Kd.R_base ho0) hb); have n1_ := Aside0.mk (Kd.R_lower (Kd.R_new' ho0 (Kd.R_lt (by (with_reducible repeat (first | apply Kd.R_alloc | apply Kd.R_drewN | apply Kd.R_drew)); exact HO267.out))) (below_size (by with_reducible repeat first | exact HB.out | apply below_alloc | apply pw_below_drewN | apply below_drew1 | refine below_set ?_ GE260.out))); have n2_ := Aside0.mk (blk_below (g := gb260) (o := .cells #[.int .i64 0, .int .i64 0, .slice none 0 0, .bool false] 30 (0, 0)) (by (with_reducible repeat (first | refine blk_drewN ?_ _ | refine blk_drew ?_ | refine blk_alloc ?_ _)); exact BK260.out) hb); have n3_ := Aside0.mk (below_step (by with_reducible repeat first | exact HB.out | apply below_alloc | apply pw_below_drewN | apply below_drew1 | refine below_set ?_ GE260.out) hb); clear HO267; clear BK260; clear HB; have HO267 := n0_; have HO278 := n1_; have BK260 := n2_; have HB := n3_; clear n0_ n1_ n2_ n3_; (try clear hb); (try clear hb2); (try clear hk); (try clear hi); (try clear ho0)) | ((with_reducible refine gate_dst (N := 7) rfl ?_); (try (refine gate_guard (by rfl) ?_; dsimp only)); refine box_event ?hg (N := 7) ?hd (cs := #[.int .i64 0, .int .i64 0, .slice none 0 0, .bool false]) (t := 30) ?hr ?_; (case hd => rfl); (case hg => rfl); (case hr => first | (go_simp; done) | (go_simp; rfl)); intro gb279 hg w21 hbox hb; have n0_ := Aside0.mk (Kd.R_below (by (with_reducible repeat (first | apply Kd.R_alloc | apply Kd.R_drewN | apply Kd.R_drew)); exact HO267.out) hb); have n1_ := Aside0.mk (Kd.R_below (by (with_reducible repeat (first | apply Kd.R_alloc | apply Kd.R_drewN | apply Kd.R_drew)); exact HO278.out) hb); have n2_ := Aside0.mk (blk_below (g := gb260) (o := .cells #[.int .i64 0, .int .i64 0, .slice none 0 0, .bool false] 30 (0, 0)) (by (with_reducible repeat (first | refine blk_drewN ?_ _ | refine blk_drew ?_ | refine blk_alloc ?_ _)); exact BK260.out) hb); have n3_ := Aside0.mk (below_step (by with_reducible repeat first | exact HB.out | apply below_alloc | apply pw_below_drewN | apply below_drew1 | refine below_set ?_ GE260.out) hb); have n4_ := Aside0.mk (hbox); have n5_ := Aside0.mk ((by rw [hg]; exact (below_size (by with_reducible repeat first | exact HB.out | apply below_alloc | apply pw_below_drewN | apply below_drew1 | refine below_set ?_ GE260.out)) : w.heap.size ≤ gb279)); have n6_ := Aside0.mk ((by rw [hg]; exact (below_size (by with_reducible repeat first | exact HB.out | apply below_alloc | apply pw_below_drewN | apply below_drew1 | refine below_set ?_ GE260.out)) : w.heap.size ≤ gb279)); have n7_ := Aside0.mk ((by rw [hg]; exact Nat.ne_of_lt (blk_lt (g := gb260) (o := .cells #[.int .i64 0, .int .i64 0, .slice none 0 0, .bool false] 30 (0, 0)) (by (with_reducible repeat (first | refine blk_drewN ?_ _ | refine blk_drew ?_ | refine blk_alloc ?_ _)); exact BK260.out)) : gb260 ≠ gb279)); have n8_ := Aside0.mk ((by rw [hg]; exact Nat.ne_of_gt (blk_lt (g := gb260) (o := .cells #[.int .i64 0, .int .i64 0, .slice none 0 0, .bool false] 30 (0, 0)) (by (with_reducible repeat (first | refine blk_drewN ?_ _ | refine blk_drew ?_ | refine blk_alloc ?_ _)); exact BK260.out)) : gb279 ≠ gb260)); clear HO267; clear HO278; clear BK260; clear HB; have HO267 := n0_; have HO278 := n1_; have BK260 := n2_; have HB := n3_; have BK279 := n4_; have GW279 := n5_; have GE279 := n6_; have NB260_279 := n7_; have NB279_260 := n8_; clear n0_ n1_ n2_ n3_ n4_ n5_ n6_ n7_ n8_; clear hb hbox hg; have hnb22 := NB279_260.out; have hnc22 := NB260_279.out; obtain ⟨hcz23_0, hcz23_1, hcz23_2, hcz23_3⟩ := bc4 BK279.out; obtain ⟨hfz23_0, hfz23_1, hfz23_2, hfz23_3⟩ := bf4 BK279.out))
    go_loopg [8] kj1 (fun kq v8 w' => ∃ (x8_2 : Int) (x280002_2 : List Int) (u280002 : Value), v8 = .int .i64 x8_2 ∧ Aside0 (tithebarnref17_Pick.l1 kq l0 x4_1 t265 t276 x8_2 x4_1 (wrap64 (x4_1 + 1)) x280002_2 true = some (r1, r2, r3, r4, r5)) ∧ Aside0 (kq ≤ kj1) ∧ Aside0 (Kd.R k38 38 w' w.heap.size (fun k_ => some k_ ≠ (v277 : Value).ownBlock) (.slice Ao18 t265.length co18) t265) ∧ Aside0 (Kd.R k38 38 w' w.heap.size (fun k_ => some k_ ≠ ((.slice Ao18 t265.length co18) : Value).ownBlock) v277 t276) ∧ Aside0 (Kd.R (Kd.int .i64) 3 w' w.heap.size (fun _ => True) u280002 x280002_2) ∧ Aside0 (w'.heap[gb260]? = some (.cells #[.int .i64 0, .int .i64 0, (.slice none 0 0), .bool false] 30 (0, 0))) ∧ Aside0 (w'.heap[gb279]? = some (.cells #[.int .i64 x4_1, .int .i64 (wrap64 (x4_1 + 1)), u280002, .bool true] 30 (0, 0))) ∧ Aside0 (Below w.heap.size w w'))
    case atStart => exact ⟨(0), (([] : List Int)), (.slice none 0 0), (by first | rfl | (simp; done) | (simp [*]; done)), H', ⟨Nat.le_refl _⟩, ⟨by (with_reducible repeat (first | apply Kd.R_alloc | apply Kd.R_drewN | apply Kd.R_drew)); exact Kd.R_mono (Kd.R_far (p := ⟨gb279, 3, none⟩) (Kd.R_far (p := ⟨gb279, 2, none⟩) (Kd.R_far (p := ⟨gb279, 1, none⟩) (Kd.R_far (p := ⟨gb279, 0, none⟩) (Kd.R_types HO267.out BK279.out (by decide)) (fun _ hk => hk.2) (.int .i64 x4_1)) (fun _ hk => hk.2) (.int .i64 (wrap64 (x4_1 + 1)))) (fun _ hk => hk.2) (.slice none 0 0)) (fun _ hk => hk.2) (.bool true)) (fun _ hk => hk.1.2)⟩, ⟨by (with_reducible repeat (first | apply Kd.R_alloc | apply Kd.R_drewN | apply Kd.R_drew)); exact Kd.R_mono (Kd.R_far (p := ⟨gb279, 3, none⟩) (Kd.R_far (p := ⟨gb279, 2, none⟩) (Kd.R_far (p := ⟨gb279, 1, none⟩) (Kd.R_far (p := ⟨gb279, 0, none⟩) (Kd.R_types HO278.out BK279.out (by decide)) (fun _ hk => hk.2) (.int .i64 x4_1)) (fun _ hk => hk.2) (.int .i64 (wrap64 (x4_1 + 1)))) (fun _ hk => hk.2) (.slice none 0 0)) (fun _ hk => hk.2) (.bool true)) (fun _ hk => hk.1.2)⟩, ⟨by first | exact Kd.R_nil _ _ _ _ _ | exact Kd.N_nil _ _ _ _ _ | exact Kd.V_nil _ _ _ _ _ | exact Kd.Q_nil _ _ _ _ _ | exact Kd.S_nil _ _ _ _ _⟩, ⟨by (iterate 4 (refine blk_far ?_ NB260_279.out _)); (with_reducible repeat (first | refine blk_drewN ?_ _ | refine blk_drew ?_ | refine blk_alloc ?_ _)); exact BK260.out⟩, ⟨by refine blk_put (cs := #[.int .i64 x4_1, .int .i64 (wrap64 (x4_1 + 1)), .slice none 0 0, .bool false]) ?_ 3 _ rfl; refine blk_put (cs := #[.int .i64 x4_1, .int .i64 (wrap64 (x4_1 + 1)), .slice none 0 0, .bool false]) ?_ 2 _ rfl; refine blk_put (cs := #[.int .i64 x4_1, .int .i64 0, .slice none 0 0, .bool false]) ?_ 1 _ rfl; refine blk_put (cs := #[.int .i64 0, .int .i64 0, .slice none 0 0, .bool false]) ?_ 0 _ rfl; (with_reducible repeat (first | refine blk_drewN ?_ _ | refine blk_drew ?_ | refine blk_alloc ?_ _)); exact BK279.out⟩, ⟨by repeat (first | (with_reducible first | exact HB.out | apply below_alloc | apply pw_below_drewN | apply below_drew1 | refine below_set ?_ GE260.out | refine below_set ?_ GE279.out) | exact HB.out)⟩⟩
    case round =>
     clear H'
     try clear c1
     try clear c2
     try clear p2
     try clear c3
     try clear c4
     try clear c4b0
     try clear p6
     try clear c7
     try clear c7b0
     try clear c11
     try clear c12
     try clear c12b0
     try clear c12b1
     try clear c22
     try clear hcz13_0 hcz13_1 hcz13_2 hcz13_3
     try clear hcz23_0 hcz23_1 hcz23_2 hcz23_3
     try clear hfz13_0 hfz13_1 hfz13_2 hfz13_3
     try clear hfz23_0 hfz23_1 hfz23_2 hfz23_3
     try clear p2
     try clear p6
     obtain ⟨x8_2, x280002_2, u280002, rfl, HA, HK2, HO_5, HO_6, HO_280002, BK260, BK279, HB⟩ := hrel
     cases gk with
     | zero => exact absurd HA.out (by simp [tithebarnref17_Pick.l1])
     | succ k2 =>
      have H := HA.out
      clear HA
      simp only [tithebarnref17_Pick.l1] at H
      by_cases c24 : x8_2 < (t265.length : Int)
      ·rw [if_pos c24] at H
       have c24b0 : decide (x8_2 < (t265.length : Int)) = true := decide_eq_true c24
       clear c24
       by_cases c25 : 0 ≤ x8_2
       ·rw [if_pos c25] at H
        have c25b0 : decide (0 ≤ x8_2) = true := decide_eq_true c25
        clear c25
        by_cases c26 : x280002_2.length < 17592186044416
        ·rw [if_pos c26] at H
         have LMc26 := Aside0.mk c26
         clear c26
         obtain ⟨y281, hy281⟩ : ∃ y_ : List Int, y_ = (x280002_2 ++ [(rd_T38 t265 x8_2).f0]) := ⟨_, rfl⟩
         replace H : (tithebarnref17_Pick.l1 k2 l0 x4_1 t265 t276 (wrap64 (x8_2 + 1)) x4_1 (wrap64 (x4_1 + 1)) y281 true) = some (r1, r2, r3, r4, r5) := by first | (rw [hy281]; with_reducible exact H) | (have H2_ := (Option.bind_some _ _).symm.trans H; rw [hy281]; with_reducible exact H2_) | (have H2_ := (Option.bind_some _ _).symm.trans H; with_reducible exact H2_) | with_reducible exact H | (rw [hy281]; exact H) | exact H
         have Ny281 := Aside0.mk hy281
         clear hy281
         have H' := Aside0.mk H
         clear H
         try go_wp2
         have n0_ := Aside0.mk (Kd.R_drew HO_5.out)
         have n1_ := Aside0.mk (Kd.R_drew HO_6.out)
         have n2_ := Aside0.mk (Kd.R_drew HO_280002.out)
         have n3_ := Aside0.mk (blk_drew BK260.out)
         have n4_ := Aside0.mk (blk_drew BK279.out)
         have n5_ := Aside0.mk (below_drew1 HB.out)
         clear HO_5
         clear HO_6
         clear HO_280002
         clear BK260
         clear BK279
         clear HB
         have HO_5 := n0_
         have HO_6 := n1_
         have HO_280002 := n2_
         have BK260 := n3_
         have BK279 := n4_
         have HB := n5_
         clear n0_ n1_ n2_ n3_ n4_ n5_
         have p280 : 0 ≤ (x8_2 : Int) := of_decide_eq_true (by with_reducible assumption)
         have q280 : x8_2 < (t265.length : Int) := of_decide_eq_true (by with_reducible assumption)
         obtain ⟨ad280, e280, hx280_0, hx280_1, hx280_2, hx280_3, hx280_4, hx280_5, hx280_6, hx280_7⟩ := at_T38 (Kd.R_reads' HO_5.out).2.2 x8_2 p280 q280
         cases e280
         replace p280 := eq_true p280
         replace q280 := eq_true q280
         refine start_ (n := 11) (S := fun w' => w'.cell? ⟨gb279, 0, none⟩ = some (.int .i64 x4_1) ∧ w'.cell? ⟨gb279, 1, none⟩ = some (.int .i64 (wrap64 (x4_1 + 1))) ∧ w'.cell? ⟨gb279, 2, none⟩ = some (u280002) ∧ w'.cell? ⟨gb279, 3, none⟩ = some (.bool true) ∧ w'.cell? (ad280.add ((x8_2).toNat * 8)) = some (.int .i64 ((rd_T38 t265 x8_2).f0)) ∧ w'.cell? ⟨(ad280.add ((x8_2).toNat * 8)).block, (ad280.add ((x8_2).toNat * 8)).off + 1, none⟩ = some (.int .i64 ((rd_T38 t265 x8_2).f1)) ∧ w'.cell? ⟨(ad280.add ((x8_2).toNat * 8)).block, (ad280.add ((x8_2).toNat * 8)).off + 2, none⟩ = some (.bool ((rd_T38 t265 x8_2).f2.f0)) ∧ w'.cell? ⟨(ad280.add ((x8_2).toNat * 8)).block, (ad280.add ((x8_2).toNat * 8)).off + 3, none⟩ = some (.int .i64 ((rd_T38 t265 x8_2).f2.f1)) ∧ w'.cell? ⟨(ad280.add ((x8_2).toNat * 8)).block, (ad280.add ((x8_2).toNat * 8)).off + 4, none⟩ = some (.string ((rd_T38 t265 x8_2).f2.f2)) ∧ w'.cell? ⟨(ad280.add ((x8_2).toNat * 8)).block, (ad280.add ((x8_2).toNat * 8)).off + 5, none⟩ = some (.bool ((rd_T38 t265 x8_2).f3.f0)) ∧ w'.cell? ⟨(ad280.add ((x8_2).toNat * 8)).block, (ad280.add ((x8_2).toNat * 8)).off + 6, none⟩ = some (.int .i64 ((rd_T38 t265 x8_2).f3.f1)) ∧ w'.cell? ⟨(ad280.add ((x8_2).toNat * 8)).block, (ad280.add ((x8_2).toNat * 8)).off + 7, none⟩ = some (.string ((rd_T38 t265 x8_2).f3.f2))) (ds := [8, 10]) #[false, false, false, false, false, false, false, false, false, false, false] (by kernel_rfl) rfl rfl ⟨(blk_cell BK279.out 0).trans rfl, (blk_cell BK279.out 1).trans rfl, (blk_cell BK279.out 2).trans rfl, (blk_cell BK279.out 3).trans rfl, hx280_0, hx280_1, hx280_2, hx280_3, hx280_4, hx280_5, hx280_6, hx280_7⟩ (fun hHeld => ?_); refine with_tabW tithebarnref17_Pick.tab12 tithebarnref17_Pick.bits12 (fun HT_ HW_ => ?_)
         generalize wr.drew = w27 at HO_5 HO_6 HO_280002 BK260 BK279 HB hx280_0 hx280_1 hx280_2 hx280_3 hx280_4 hx280_5 hx280_6 hx280_7 hHeld ⊢
         refine pure_ (i := 0) (N := some 46) (v := ?_) (a' := ?_) #[true, false, false, false, false, false, false, false, false, false, false] rfl rfl (any_of HT_.out (by kernel_rfl)) (fun _ _ _ h => h) (Or.inl ⟨by rfl, ?_⟩) ?_ ?_
         rotate_left
         ·intro w'
          go_simp
          with_reducible rfl
         rotate_left
         ·simp only [Act.put, List.setIfInBounds_toArray, List.set_cons_zero, List.set_cons_succ, i64_w, i32_w]
          rfl
         refine pure_ (i := 2) (N := some 48) (v := ?_) (a' := ?_) #[true, false, true, false, false, false, false, false, false, false, false] rfl rfl (any_of HT_.out (by kernel_rfl)) (fun _ _ _ h => h) (Or.inl ⟨by rfl, ?_⟩) ?_ ?_
         rotate_left
         ·intro w'
          go_simp
          with_reducible rfl
         rotate_left
         ·simp only [Act.put, List.setIfInBounds_toArray, List.set_cons_zero, List.set_cons_succ, i64_w, i32_w]
          rfl
         refine pure_ (i := 3) (N := some 49) (v := ?_) (a' := ?_) #[true, false, true, true, false, false, false, false, false, false, false] rfl rfl (any_of HT_.out (by kernel_rfl)) (fun _ _ _ h => h) (Or.inl ⟨by rfl, ?_⟩) ?_ ?_
         rotate_left
         ·intro w'
          go_simp
          with_reducible rfl
         rotate_left
         ·simp only [Act.put, List.setIfInBounds_toArray, List.set_cons_zero, List.set_cons_succ, i64_w, i32_w]
          rfl
         refine pure_ (i := 4) (N := some 50) (v := ?_) (a' := ?_) #[true, false, true, true, true, false, false, false, false, false, false] rfl rfl (any_of HT_.out (by kernel_rfl)) (fun _ _ _ h => h) (Or.inl ⟨by rfl, ?_⟩) ?_ ?_
         rotate_left
         ·intro w'
          go_simp
          with_reducible rfl
         rotate_left
         ·simp only [Act.put, List.setIfInBounds_toArray, List.set_cons_zero, List.set_cons_succ, i64_w, i32_w]
          rfl
         refine pure_ (i := 5) (N := some 51) (v := ?_) (a' := ?_) #[true, false, true, true, true, true, false, false, false, false, false] rfl rfl (any_of HT_.out (by kernel_rfl)) (fun _ _ _ h => h) (Or.inl ⟨by rfl, ?_⟩) ?_ ?_
         rotate_left
         ·intro w'
          go_simp
          with_reducible rfl
         rotate_left
         ·simp only [Act.put, List.setIfInBounds_toArray, List.set_cons_zero, List.set_cons_succ, i64_w, i32_w]
          rfl
         refine take_ (i := 1) (N := some 47) (v := ?_) (a' := ?_) #[true, true, true, true, true, true, false, false, false, false, false] rfl rfl (take_ofW HT_.out HW_.out (by kernel_rfl)) (fun _ _ _ h => h) (Or.inl ⟨by rfl, ?_⟩) hHeld ?_ ?_
         rotate_left
         ·rintro w' ⟨s0, s1, s2, s3, s4, s5, s6, s7, s8, s9, s10, s11⟩
          go_simp
          with_reducible rfl
         rotate_left
         ·simp only [Act.put, List.setIfInBounds_toArray, List.set_cons_zero, List.set_cons_succ, i64_w, i32_w]
          rfl
         refine take_ (i := 6) (N := some 52) (v := ?_) (a' := ?_) #[true, true, true, true, true, true, true, false, false, false, false] rfl rfl (take_ofW HT_.out HW_.out (by kernel_rfl)) (fun _ _ _ h => h) (Or.inl ⟨by rfl, ?_⟩) hHeld ?_ ?_
         rotate_left
         ·rintro w' ⟨s0, s1, s2, s3, s4, s5, s6, s7, s8, s9, s10, s11⟩
          go_simp
          with_reducible rfl
         rotate_left
         ·simp only [Act.put, List.setIfInBounds_toArray, List.set_cons_zero, List.set_cons_succ, i64_w, i32_w]
          rfl
         refine one_ (i := 7) (N := some 53) #[true, true, true, true, true, true, true, true, false, false, false] rfl rfl (one_of HT_.out (by kernel_rfl)) (by decide) (fun K hK => ?_)
         refine value_ (w1 := ?_) (v := ?_) (by rfl) rfl ?_ ?_
         rotate_left 2
         ·go_simp
          constructor
          ·rfl
          ·rfl
         refine hK.out _ _ ⟨(blk_cell (blk_alloc BK279.out _) 0).trans rfl, (blk_cell (blk_alloc BK279.out _) 1).trans rfl, (blk_cell (blk_alloc BK279.out _) 2).trans rfl, (blk_cell (blk_alloc BK279.out _) 3).trans rfl, (World.cell?_alloc_lt _ _ _ (World.block_lt_of_cell? _ _ (hHeld.2.2.2.2.1))).trans (hHeld.2.2.2.2.1), (World.cell?_alloc_lt _ _ _ (World.block_lt_of_cell? _ _ (hHeld.2.2.2.2.2.1))).trans (hHeld.2.2.2.2.2.1), (World.cell?_alloc_lt _ _ _ (World.block_lt_of_cell? _ _ (hHeld.2.2.2.2.2.2.1))).trans (hHeld.2.2.2.2.2.2.1), (World.cell?_alloc_lt _ _ _ (World.block_lt_of_cell? _ _ (hHeld.2.2.2.2.2.2.2.1))).trans (hHeld.2.2.2.2.2.2.2.1), (World.cell?_alloc_lt _ _ _ (World.block_lt_of_cell? _ _ (hHeld.2.2.2.2.2.2.2.2.1))).trans (hHeld.2.2.2.2.2.2.2.2.1), (World.cell?_alloc_lt _ _ _ (World.block_lt_of_cell? _ _ (hHeld.2.2.2.2.2.2.2.2.2.1))).trans (hHeld.2.2.2.2.2.2.2.2.2.1), (World.cell?_alloc_lt _ _ _ (World.block_lt_of_cell? _ _ (hHeld.2.2.2.2.2.2.2.2.2.2.1))).trans (hHeld.2.2.2.2.2.2.2.2.2.2.1), (World.cell?_alloc_lt _ _ _ (World.block_lt_of_cell? _ _ (hHeld.2.2.2.2.2.2.2.2.2.2.2))).trans (hHeld.2.2.2.2.2.2.2.2.2.2.2)⟩ (fun hHeld => ?_)
         clear hK K
         refine norm_ (a' := ?_) ?_ ?_
         rotate_left
         ·show Act.put _ (some 53) _ = _
          simp only [Act.put, List.setIfInBounds_toArray, List.set_cons_zero, List.set_cons_succ, i64_w, i32_w]
          rfl
         refine last_ (i := 8) (N := some 54) #[true, true, true, true, true, true, true, true, true, false, false] rfl rfl (one_of HT_.out (by kernel_rfl)) (by decide) (fun K hK => ?_)
         refine Kd.R_append_step (Kd.int .i64) (w0 := w) w.heap.size (by rfl) (.tmp 47) (.tmp 53) 25 3 (.int .i64 0) 8 rfl Try.underlying25 info3 rfl (by decide) (by omega) u280002 x280002_2 ((rd_T38 t265 x8_2).f0) [.int .i64 ((rd_T38 t265 x8_2).f0)] (fun _ => True) (fun _ => False) rfl rfl ?aP (fun _ hk => hk.elim) ?aF ?aO ?aB ?aS ?aL ?_
         (case aP => exact rfl)
         (case aB => exact (by with_reducible repeat first | exact HB.out | apply below_alloc | apply pw_below_drewN | apply below_drew1 | refine below_set ?_ GE260.out | refine below_set ?_ GE279.out))
         (case aF => exact (fun _ _ => trivial))
         (case aO => exact (by (with_reducible repeat (first | apply Kd.R_alloc | apply Kd.R_drewN | apply Kd.R_drew)); exact HO_280002.out))
         (case aS => exact (below_size (by with_reducible repeat first | exact HB.out | apply below_alloc | apply pw_below_drewN | apply below_drew1 | refine below_set ?_ GE260.out | refine below_set ?_ GE279.out)))
         (case aL => have := LMc26.out; omega)
         intro v282 w28 ho hb hg hat
         rw [← Ny281.out] at ho
         have n0_ := Aside0.mk (Kd.R_over' (by (with_reducible repeat (first | apply Kd.R_alloc | apply Kd.R_drewN | apply Kd.R_drew)); exact HO_5.out) (Kd.R_typed (by (with_reducible repeat (first | apply Kd.R_alloc | apply Kd.R_drewN | apply Kd.R_drew)); exact HO_280002.out)) (by decide) hg)
         have n1_ := Aside0.mk (Kd.R_over' (by (with_reducible repeat (first | apply Kd.R_alloc | apply Kd.R_drewN | apply Kd.R_drew)); exact HO_6.out) (Kd.R_typed (by (with_reducible repeat (first | apply Kd.R_alloc | apply Kd.R_drewN | apply Kd.R_drew)); exact HO_280002.out)) (by decide) hg)
         have n2_ := Aside0.mk (blk_grown (g := gb260) (o := .cells #[.int .i64 0, .int .i64 0, .slice none 0 0, .bool false] 30 (0, 0)) (by (with_reducible repeat (first | refine blk_drewN ?_ _ | refine blk_drew ?_ | refine blk_alloc ?_ _)); exact BK260.out) hg (Kd.R_ne HO_280002.out BK260.out (by decide)))
         have n3_ := Aside0.mk (blk_grown (g := gb279) (o := .cells #[.int .i64 x4_1, .int .i64 (wrap64 (x4_1 + 1)), u280002, .bool true] 30 (0, 0)) (by (with_reducible repeat (first | refine blk_drewN ?_ _ | refine blk_drew ?_ | refine blk_alloc ?_ _)); exact BK279.out) hg (Kd.R_ne HO_280002.out BK279.out (by decide)))
         have n4_ := Aside0.mk (hb)
         have n5_ := Aside0.mk (ho)
         clear HO_5
         clear HO_6
         clear BK260
         clear BK279
         clear HB
         clear HO_280002
         have HO_5 := n0_
         have HO_6 := n1_
         have BK260 := n2_
         have BK279 := n3_
         have HB := n4_
         have HO283 := n5_
         clear n0_ n1_ n2_ n3_ n4_ n5_
         clear ho hb hg hat
         obtain ⟨Ao29, co29, eo29⟩ := Kd.R_slice HO283.out
         (first | subst eo29 | (injection eo29 with f1_ f2_ f3_; have f4_ := f1_.symm; have f5_ := f3_.symm; clear f1_ f2_ f3_; subst f4_; subst f5_))
         refine hK.out _ _ ?_
         clear hK K
         refine norm_ (a' := ?_) ?_ ?_
         rotate_left
         ·show Act.put _ (some 54) _ = _
          simp only [Act.put, List.setIfInBounds_toArray, List.set_cons_zero, List.set_cons_succ, i64_w, i32_w]
          rfl
         refine pure_ (i := 9) (N := some 55) (v := ?_) (a' := ?_) #[true, true, true, true, true, true, true, true, true, true, false] rfl rfl (any_of HT_.out (by kernel_rfl)) (fun _ _ _ h => h) (Or.inl ⟨by rfl, ?_⟩) ?_ ?_
         rotate_left
         ·intro w'
          go_simp
          with_reducible rfl
         rotate_left
         ·simp only [Act.put, List.setIfInBounds_toArray, List.set_cons_zero, List.set_cons_succ, i64_w, i32_w]
          rfl
         refine last_ (i := 10) (N := none) #[true, true, true, true, true, true, true, true, true, true, true] rfl rfl (one_of HT_.out (by kernel_rfl)) (by decide) (fun K hK => ?_)
         have hs30 : w28.cell? ⟨gb279, 2, none⟩ = some (u280002) := (blk_cell BK279.out 2).trans rfl
         have hfs30 := blk_frozen BK279.out 2
         have hns30_0 := NB260_279.out
         have hms30_0 := NB279_260.out
         refine skip_ (w1 := ?_) (by rfl) rfl ?_ ?_
         rotate_left
         ·go_simp
          rfl
         refine hK.out _ _ ?_
         clear hK K
         refine done_ (done_of HT_.out (by kernel_rfl)) ?_
         try go_wp2
         go_roundg k2
         case measure => have := HJ1.out; have := HK2.out; omega
         case rel => exact ⟨(wrap64 (x8_2 + 1)), (y281), (.slice Ao29 y281.length co29), (by first | rfl | (simp; done) | (simp [*]; done)), H', ⟨by have := HJ1.out; have := HK2.out; omega⟩, ⟨by (with_reducible repeat (first | apply Kd.R_alloc | apply Kd.R_drewN | apply Kd.R_drew)); exact Kd.R_mono (Kd.R_far (p := ⟨gb279, 2, none⟩) (Kd.R_types HO_5.out BK279.out (by decide)) (fun _ hk => hk.2) (.slice Ao29 y281.length co29)) (fun _ hk => hk.1)⟩, ⟨by (with_reducible repeat (first | apply Kd.R_alloc | apply Kd.R_drewN | apply Kd.R_drew)); exact Kd.R_mono (Kd.R_far (p := ⟨gb279, 2, none⟩) (Kd.R_types HO_6.out BK279.out (by decide)) (fun _ hk => hk.2) (.slice Ao29 y281.length co29)) (fun _ hk => hk.1)⟩, ⟨by (with_reducible repeat (first | apply Kd.R_alloc | apply Kd.R_drewN | apply Kd.R_drew)); exact Kd.R_mono (Kd.R_far (p := ⟨gb279, 2, none⟩) (Kd.R_types HO283.out BK279.out (by decide)) (fun _ hk => hk.2) (.slice Ao29 y281.length co29)) (fun _ hk => trivial)⟩, ⟨by refine blk_far ?_ NB260_279.out _; (with_reducible repeat (first | refine blk_drewN ?_ _ | refine blk_drew ?_ | refine blk_alloc ?_ _)); exact BK260.out⟩, ⟨by refine blk_put (cs := #[.int .i64 x4_1, .int .i64 (wrap64 (x4_1 + 1)), u280002, .bool true]) ?_ 2 _ rfl; (with_reducible repeat (first | refine blk_drewN ?_ _ | refine blk_drew ?_ | refine blk_alloc ?_ _)); exact BK279.out⟩, ⟨by repeat (first | (with_reducible first | exact HB.out | apply below_alloc | apply pw_below_drewN | apply below_drew1 | refine below_set ?_ GE260.out | refine below_set ?_ GE279.out) | exact HB.out)⟩⟩
        ·rw [if_neg c26] at H
         exact absurd H (by simp)
       ·rw [if_neg c25] at H
        exact absurd H (by simp)
      ·rw [if_neg c24] at H
       have c24b0 : decide (x8_2 < (t265.length : Int)) = false := decide_eq_false c24
       clear c24
       have H' := Aside0.mk H
       clear H
       go_wp2
       go_loopg [9] k2 (fun kq v9 w' => ∃ (x9_3 : Int) (x280002_3 : List Int) (u280002 : Value), v9 = .int .i64 x9_3 ∧ Aside0 (tithebarnref17_Pick.l2 kq l0 x4_1 t276 x9_3 x4_1 (wrap64 (x4_1 + 1)) x280002_3 true = some (r1, r2, r3, r4, r5)) ∧ Aside0 (kq ≤ k2) ∧ Aside0 (Kd.R k38 38 w' w.heap.size (fun _ => True) v277 t276) ∧ Aside0 (Kd.R (Kd.int .i64) 3 w' w.heap.size (fun _ => True) u280002 x280002_3) ∧ Aside0 (w'.heap[gb260]? = some (.cells #[.int .i64 0, .int .i64 0, (.slice none 0 0), .bool false] 30 (0, 0))) ∧ Aside0 (w'.heap[gb279]? = some (.cells #[.int .i64 x4_1, .int .i64 (wrap64 (x4_1 + 1)), u280002, .bool true] 30 (0, 0))) ∧ Aside0 (Below w.heap.size w w'))
       case atStart => exact ⟨(0), (x280002_2), (u280002), (by first | rfl | (simp; done) | (simp [*]; done)), H', ⟨Nat.le_refl _⟩, ⟨by (with_reducible repeat (first | apply Kd.R_alloc | apply Kd.R_drewN | apply Kd.R_drew)); exact Kd.R_mono HO_6.out (fun _ hk => trivial)⟩, ⟨by (with_reducible repeat (first | apply Kd.R_alloc | apply Kd.R_drewN | apply Kd.R_drew)); exact HO_280002.out⟩, ⟨by (with_reducible repeat (first | refine blk_drewN ?_ _ | refine blk_drew ?_ | refine blk_alloc ?_ _)); exact BK260.out⟩, ⟨by (with_reducible repeat (first | refine blk_drewN ?_ _ | refine blk_drew ?_ | refine blk_alloc ?_ _)); exact BK279.out⟩, ⟨by repeat (first | (with_reducible first | exact HB.out | apply below_alloc | apply pw_below_drewN | apply below_drew1 | refine below_set ?_ GE260.out | refine below_set ?_ GE279.out) | exact HB.out)⟩⟩
       case round =>
        clear H'
        try clear c1
        try clear c2
        try clear p2
        try clear q2
        try clear hx2
        try clear c3
        try clear c4
        try clear c4b0
        try clear p6
        try clear c7
        try clear c7b0
        try clear c11
        try clear c12
        try clear c12b0
        try clear c12b1
        try clear c22
        try clear c24
        try clear c24b0
        try clear c25
        try clear c25b0
        try clear c26
        try clear p28
        try clear q28
        try clear hx28
        try clear hcz13_0 hcz13_1 hcz13_2 hcz13_3
        try clear hcz23_0 hcz23_1 hcz23_2 hcz23_3
        try clear hfz13_0 hfz13_1 hfz13_2 hfz13_3
        try clear hfz23_0 hfz23_1 hfz23_2 hfz23_3
        try clear hx280_0 hx280_1 hx280_2 hx280_3 hx280_4 hx280_5 hx280_6 hx280_7
        try clear p2
        try clear p280
        try clear p6
        try clear q280
        obtain ⟨x9_3, x280002_3, u280002, rfl, HA, HK3, HO_6, HO_280002, BK260, BK279, HB⟩ := hrel
        cases gk with
        | zero => exact absurd HA.out (by simp [tithebarnref17_Pick.l2])
        | succ k3 =>
         have H := HA.out
         clear HA
         simp only [tithebarnref17_Pick.l2] at H
         by_cases c31 : x9_3 < (t276.length : Int)
         ·rw [if_pos c31] at H
          have c31b0 : decide (x9_3 < (t276.length : Int)) = true := decide_eq_true c31
          clear c31
          by_cases c32 : 0 ≤ x9_3
          ·rw [if_pos c32] at H
           have c32b0 : decide (0 ≤ x9_3) = true := decide_eq_true c32
           clear c32
           by_cases c33 : x280002_3.length < 17592186044416
           ·rw [if_pos c33] at H
            have LMc33 := Aside0.mk c33
            clear c33
            obtain ⟨y285, hy285⟩ : ∃ y_ : List Int, y_ = (x280002_3 ++ [(rd_T38 t276 x9_3).f0]) := ⟨_, rfl⟩
            replace H : (tithebarnref17_Pick.l2 k3 l0 x4_1 t276 (wrap64 (x9_3 + 1)) x4_1 (wrap64 (x4_1 + 1)) y285 true) = some (r1, r2, r3, r4, r5) := by first | (rw [hy285]; with_reducible exact H) | (have H2_ := (Option.bind_some _ _).symm.trans H; rw [hy285]; with_reducible exact H2_) | (have H2_ := (Option.bind_some _ _).symm.trans H; with_reducible exact H2_) | with_reducible exact H | (rw [hy285]; exact H) | exact H
            have Ny285 := Aside0.mk hy285
            clear hy285
            have H' := Aside0.mk H
            clear H
            obtain ⟨Ao34, co34, eo34⟩ := Kd.R_slice HO_6.out
            subst eo34
            try go_wp2
            have n0_ := Aside0.mk (Kd.R_drew HO_6.out)
            have n1_ := Aside0.mk (Kd.R_drew HO_280002.out)
            have n2_ := Aside0.mk (blk_drew BK260.out)
            have n3_ := Aside0.mk (blk_drew BK279.out)
            have n4_ := Aside0.mk (below_drew1 HB.out)
            clear HO_6
            clear HO_280002
            clear BK260
            clear BK279
            clear HB
            have HO_6 := n0_
            have HO_280002 := n1_
            have BK260 := n2_
            have BK279 := n3_
            have HB := n4_
            clear n0_ n1_ n2_ n3_ n4_
            have p284 : 0 ≤ (x9_3 : Int) := of_decide_eq_true (by with_reducible assumption)
            have q284 : x9_3 < (t276.length : Int) := of_decide_eq_true (by with_reducible assumption)
            obtain ⟨ad284, e284, hx284_0, hx284_1, hx284_2, hx284_3, hx284_4, hx284_5, hx284_6, hx284_7⟩ := at_T38 (Kd.R_reads' HO_6.out).2.2 x9_3 p284 q284
            cases e284
            replace p284 := eq_true p284
            replace q284 := eq_true q284
            refine start_ (n := 11) (S := fun w' => w'.cell? ⟨gb279, 0, none⟩ = some (.int .i64 x4_1) ∧ w'.cell? ⟨gb279, 1, none⟩ = some (.int .i64 (wrap64 (x4_1 + 1))) ∧ w'.cell? ⟨gb279, 2, none⟩ = some (u280002) ∧ w'.cell? ⟨gb279, 3, none⟩ = some (.bool true) ∧ w'.cell? (ad284.add ((x9_3).toNat * 8)) = some (.int .i64 ((rd_T38 t276 x9_3).f0)) ∧ w'.cell? ⟨(ad284.add ((x9_3).toNat * 8)).block, (ad284.add ((x9_3).toNat * 8)).off + 1, none⟩ = some (.int .i64 ((rd_T38 t276 x9_3).f1)) ∧ w'.cell? ⟨(ad284.add ((x9_3).toNat * 8)).block, (ad284.add ((x9_3).toNat * 8)).off + 2, none⟩ = some (.bool ((rd_T38 t276 x9_3).f2.f0)) ∧ w'.cell? ⟨(ad284.add ((x9_3).toNat * 8)).block, (ad284.add ((x9_3).toNat * 8)).off + 3, none⟩ = some (.int .i64 ((rd_T38 t276 x9_3).f2.f1)) ∧ w'.cell? ⟨(ad284.add ((x9_3).toNat * 8)).block, (ad284.add ((x9_3).toNat * 8)).off + 4, none⟩ = some (.string ((rd_T38 t276 x9_3).f2.f2)) ∧ w'.cell? ⟨(ad284.add ((x9_3).toNat * 8)).block, (ad284.add ((x9_3).toNat * 8)).off + 5, none⟩ = some (.bool ((rd_T38 t276 x9_3).f3.f0)) ∧ w'.cell? ⟨(ad284.add ((x9_3).toNat * 8)).block, (ad284.add ((x9_3).toNat * 8)).off + 6, none⟩ = some (.int .i64 ((rd_T38 t276 x9_3).f3.f1)) ∧ w'.cell? ⟨(ad284.add ((x9_3).toNat * 8)).block, (ad284.add ((x9_3).toNat * 8)).off + 7, none⟩ = some (.string ((rd_T38 t276 x9_3).f3.f2))) (ds := [8, 10]) #[false, false, false, false, false, false, false, false, false, false, false] (by kernel_rfl) rfl rfl ⟨(blk_cell BK279.out 0).trans rfl, (blk_cell BK279.out 1).trans rfl, (blk_cell BK279.out 2).trans rfl, (blk_cell BK279.out 3).trans rfl, hx284_0, hx284_1, hx284_2, hx284_3, hx284_4, hx284_5, hx284_6, hx284_7⟩ (fun hHeld => ?_); refine with_tabW tithebarnref17_Pick.tab16 tithebarnref17_Pick.bits16 (fun HT_ HW_ => ?_)
            generalize wr.drew = w35 at HO_6 HO_280002 BK260 BK279 HB hx284_0 hx284_1 hx284_2 hx284_3 hx284_4 hx284_5 hx284_6 hx284_7 hHeld ⊢
            refine pure_ (i := 0) (N := some 62) (v := ?_) (a' := ?_) #[true, false, false, false, false, false, false, false, false, false, false] rfl rfl (any_of HT_.out (by kernel_rfl)) (fun _ _ _ h => h) (Or.inl ⟨by rfl, ?_⟩) ?_ ?_
            rotate_left
            ·intro w'
             go_simp
             with_reducible rfl
            rotate_left
            ·simp only [Act.put, List.setIfInBounds_toArray, List.set_cons_zero, List.set_cons_succ, i64_w, i32_w]
             rfl
            refine pure_ (i := 2) (N := some 64) (v := ?_) (a' := ?_) #[true, false, true, false, false, false, false, false, false, false, false] rfl rfl (any_of HT_.out (by kernel_rfl)) (fun _ _ _ h => h) (Or.inl ⟨by rfl, ?_⟩) ?_ ?_
            rotate_left
            ·intro w'
             go_simp
             with_reducible rfl
            rotate_left
            ·simp only [Act.put, List.setIfInBounds_toArray, List.set_cons_zero, List.set_cons_succ, i64_w, i32_w]
             rfl
            refine pure_ (i := 3) (N := some 65) (v := ?_) (a' := ?_) #[true, false, true, true, false, false, false, false, false, false, false] rfl rfl (any_of HT_.out (by kernel_rfl)) (fun _ _ _ h => h) (Or.inl ⟨by rfl, ?_⟩) ?_ ?_
            rotate_left
            ·intro w'
             go_simp
             with_reducible rfl
            rotate_left
            ·simp only [Act.put, List.setIfInBounds_toArray, List.set_cons_zero, List.set_cons_succ, i64_w, i32_w]
             rfl
            refine pure_ (i := 4) (N := some 66) (v := ?_) (a' := ?_) #[true, false, true, true, true, false, false, false, false, false, false] rfl rfl (any_of HT_.out (by kernel_rfl)) (fun _ _ _ h => h) (Or.inl ⟨by rfl, ?_⟩) ?_ ?_
            rotate_left
            ·intro w'
             go_simp
             with_reducible rfl
            rotate_left
            ·simp only [Act.put, List.setIfInBounds_toArray, List.set_cons_zero, List.set_cons_succ, i64_w, i32_w]
             rfl
            refine pure_ (i := 5) (N := some 67) (v := ?_) (a' := ?_) #[true, false, true, true, true, true, false, false, false, false, false] rfl rfl (any_of HT_.out (by kernel_rfl)) (fun _ _ _ h => h) (Or.inl ⟨by rfl, ?_⟩) ?_ ?_
            rotate_left
            ·intro w'
             go_simp
             with_reducible rfl
            rotate_left
            ·simp only [Act.put, List.setIfInBounds_toArray, List.set_cons_zero, List.set_cons_succ, i64_w, i32_w]
             rfl
            refine take_ (i := 1) (N := some 63) (v := ?_) (a' := ?_) #[true, true, true, true, true, true, false, false, false, false, false] rfl rfl (take_ofW HT_.out HW_.out (by kernel_rfl)) (fun _ _ _ h => h) (Or.inl ⟨by rfl, ?_⟩) hHeld ?_ ?_
            rotate_left
            ·rintro w' ⟨s0, s1, s2, s3, s4, s5, s6, s7, s8, s9, s10, s11⟩
             go_simp
             with_reducible rfl
            rotate_left
            ·simp only [Act.put, List.setIfInBounds_toArray, List.set_cons_zero, List.set_cons_succ, i64_w, i32_w]
             rfl
            refine take_ (i := 6) (N := some 68) (v := ?_) (a' := ?_) #[true, true, true, true, true, true, true, false, false, false, false] rfl rfl (take_ofW HT_.out HW_.out (by kernel_rfl)) (fun _ _ _ h => h) (Or.inl ⟨by rfl, ?_⟩) hHeld ?_ ?_
            rotate_left
            ·rintro w' ⟨s0, s1, s2, s3, s4, s5, s6, s7, s8, s9, s10, s11⟩
             go_simp
             with_reducible rfl
            rotate_left
            ·simp only [Act.put, List.setIfInBounds_toArray, List.set_cons_zero, List.set_cons_succ, i64_w, i32_w]
             rfl
            refine one_ (i := 7) (N := some 69) #[true, true, true, true, true, true, true, true, false, false, false] rfl rfl (one_of HT_.out (by kernel_rfl)) (by decide) (fun K hK => ?_)
            refine value_ (w1 := ?_) (v := ?_) (by rfl) rfl ?_ ?_
            rotate_left 2
            ·go_simp
             constructor
             ·rfl
             ·rfl
            refine hK.out _ _ ⟨(blk_cell (blk_alloc BK279.out _) 0).trans rfl, (blk_cell (blk_alloc BK279.out _) 1).trans rfl, (blk_cell (blk_alloc BK279.out _) 2).trans rfl, (blk_cell (blk_alloc BK279.out _) 3).trans rfl, (World.cell?_alloc_lt _ _ _ (World.block_lt_of_cell? _ _ (hHeld.2.2.2.2.1))).trans (hHeld.2.2.2.2.1), (World.cell?_alloc_lt _ _ _ (World.block_lt_of_cell? _ _ (hHeld.2.2.2.2.2.1))).trans (hHeld.2.2.2.2.2.1), (World.cell?_alloc_lt _ _ _ (World.block_lt_of_cell? _ _ (hHeld.2.2.2.2.2.2.1))).trans (hHeld.2.2.2.2.2.2.1), (World.cell?_alloc_lt _ _ _ (World.block_lt_of_cell? _ _ (hHeld.2.2.2.2.2.2.2.1))).trans (hHeld.2.2.2.2.2.2.2.1), (World.cell?_alloc_lt _ _ _ (World.block_lt_of_cell? _ _ (hHeld.2.2.2.2.2.2.2.2.1))).trans (hHeld.2.2.2.2.2.2.2.2.1), (World.cell?_alloc_lt _ _ _ (World.block_lt_of_cell? _ _ (hHeld.2.2.2.2.2.2.2.2.2.1))).trans (hHeld.2.2.2.2.2.2.2.2.2.1), (World.cell?_alloc_lt _ _ _ (World.block_lt_of_cell? _ _ (hHeld.2.2.2.2.2.2.2.2.2.2.1))).trans (hHeld.2.2.2.2.2.2.2.2.2.2.1), (World.cell?_alloc_lt _ _ _ (World.block_lt_of_cell? _ _ (hHeld.2.2.2.2.2.2.2.2.2.2.2))).trans (hHeld.2.2.2.2.2.2.2.2.2.2.2)⟩ (fun hHeld => ?_)
            clear hK K
            refine norm_ (a' := ?_) ?_ ?_
            rotate_left
            ·show Act.put _ (some 69) _ = _
             simp only [Act.put, List.setIfInBounds_toArray, List.set_cons_zero, List.set_cons_succ, i64_w, i32_w]
             rfl
            refine last_ (i := 8) (N := some 70) #[true, true, true, true, true, true, true, true, true, false, false] rfl rfl (one_of HT_.out (by kernel_rfl)) (by decide) (fun K hK => ?_)
            refine Kd.R_append_step (Kd.int .i64) (w0 := w) w.heap.size (by rfl) (.tmp 63) (.tmp 69) 25 3 (.int .i64 0) 8 rfl Try.underlying25 info3 rfl (by decide) (by omega) u280002 x280002_3 ((rd_T38 t276 x9_3).f0) [.int .i64 ((rd_T38 t276 x9_3).f0)] (fun _ => True) (fun _ => False) rfl rfl ?aP (fun _ hk => hk.elim) ?aF ?aO ?aB ?aS ?aL ?_
            (case aP => exact rfl)
            (case aB => exact (by with_reducible repeat first | exact HB.out | apply below_alloc | apply pw_below_drewN | apply below_drew1 | refine below_set ?_ GE260.out | refine below_set ?_ GE279.out))
            (case aF => exact (fun _ _ => trivial))
            (case aO => exact (by (with_reducible repeat (first | apply Kd.R_alloc | apply Kd.R_drewN | apply Kd.R_drew)); exact HO_280002.out))
            (case aS => exact (below_size (by with_reducible repeat first | exact HB.out | apply below_alloc | apply pw_below_drewN | apply below_drew1 | refine below_set ?_ GE260.out | refine below_set ?_ GE279.out)))
            (case aL => have := LMc33.out; omega)
            intro v286 w36 ho hb hg hat
            rw [← Ny285.out] at ho
            have n0_ := Aside0.mk (Kd.R_over' (by (with_reducible repeat (first | apply Kd.R_alloc | apply Kd.R_drewN | apply Kd.R_drew)); exact HO_6.out) (Kd.R_typed (by (with_reducible repeat (first | apply Kd.R_alloc | apply Kd.R_drewN | apply Kd.R_drew)); exact HO_280002.out)) (by decide) hg)
            have n1_ := Aside0.mk (blk_grown (g := gb260) (o := .cells #[.int .i64 0, .int .i64 0, .slice none 0 0, .bool false] 30 (0, 0)) (by (with_reducible repeat (first | refine blk_drewN ?_ _ | refine blk_drew ?_ | refine blk_alloc ?_ _)); exact BK260.out) hg (Kd.R_ne HO_280002.out BK260.out (by decide)))
            have n2_ := Aside0.mk (blk_grown (g := gb279) (o := .cells #[.int .i64 x4_1, .int .i64 (wrap64 (x4_1 + 1)), u280002, .bool true] 30 (0, 0)) (by (with_reducible repeat (first | refine blk_drewN ?_ _ | refine blk_drew ?_ | refine blk_alloc ?_ _)); exact BK279.out) hg (Kd.R_ne HO_280002.out BK279.out (by decide)))
            have n3_ := Aside0.mk (hb)
            have n4_ := Aside0.mk (ho)
            clear HO_6
            clear BK260
            clear BK279
            clear HB
            clear HO_280002
            have HO_6 := n0_
            have BK260 := n1_
            have BK279 := n2_
            have HB := n3_
            have HO287 := n4_
            clear n0_ n1_ n2_ n3_ n4_
            clear ho hb hg hat
            obtain ⟨Ao37, co37, eo37⟩ := Kd.R_slice HO287.out
            (first | subst eo37 | (injection eo37 with f1_ f2_ f3_; have f4_ := f1_.symm; have f5_ := f3_.symm; clear f1_ f2_ f3_; subst f4_; subst f5_))
            refine hK.out _ _ ?_
            clear hK K
            refine norm_ (a' := ?_) ?_ ?_
            rotate_left
            ·show Act.put _ (some 70) _ = _
             simp only [Act.put, List.setIfInBounds_toArray, List.set_cons_zero, List.set_cons_succ, i64_w, i32_w]
             rfl
            refine pure_ (i := 9) (N := some 71) (v := ?_) (a' := ?_) #[true, true, true, true, true, true, true, true, true, true, false] rfl rfl (any_of HT_.out (by kernel_rfl)) (fun _ _ _ h => h) (Or.inl ⟨by rfl, ?_⟩) ?_ ?_
            rotate_left
            ·intro w'
             go_simp
             with_reducible rfl
            rotate_left
            ·simp only [Act.put, List.setIfInBounds_toArray, List.set_cons_zero, List.set_cons_succ, i64_w, i32_w]
             rfl
            refine last_ (i := 10) (N := none) #[true, true, true, true, true, true, true, true, true, true, true] rfl rfl (one_of HT_.out (by kernel_rfl)) (by decide) (fun K hK => ?_)
            have hs38 : w36.cell? ⟨gb279, 2, none⟩ = some (u280002) := (blk_cell BK279.out 2).trans rfl
            have hfs38 := blk_frozen BK279.out 2
            have hns38_0 := NB260_279.out
            have hms38_0 := NB279_260.out
            refine skip_ (w1 := ?_) (by rfl) rfl ?_ ?_
            rotate_left
            ·go_simp
             rfl
            refine hK.out _ _ ?_
            clear hK K
            refine done_ (done_of HT_.out (by kernel_rfl)) ?_
            try go_wp2
            go_roundg k3
            case measure => have := HJ1.out; have := HK2.out; have := HK3.out; omega
            case rel => exact ⟨(wrap64 (x9_3 + 1)), (y285), (.slice Ao37 y285.length co37), (by first | rfl | (simp; done) | (simp [*]; done)), H', ⟨by have := HJ1.out; have := HK2.out; have := HK3.out; omega⟩, ⟨by (with_reducible repeat (first | apply Kd.R_alloc | apply Kd.R_drewN | apply Kd.R_drew)); exact Kd.R_mono (Kd.R_far (p := ⟨gb279, 2, none⟩) (Kd.R_types HO_6.out BK279.out (by decide)) (fun _ hk => hk.2) (.slice Ao37 y285.length co37)) (fun _ hk => trivial)⟩, ⟨by (with_reducible repeat (first | apply Kd.R_alloc | apply Kd.R_drewN | apply Kd.R_drew)); exact Kd.R_mono (Kd.R_far (p := ⟨gb279, 2, none⟩) (Kd.R_types HO287.out BK279.out (by decide)) (fun _ hk => hk.2) (.slice Ao37 y285.length co37)) (fun _ hk => trivial)⟩, ⟨by refine blk_far ?_ NB260_279.out _; (with_reducible repeat (first | refine blk_drewN ?_ _ | refine blk_drew ?_ | refine blk_alloc ?_ _)); exact BK260.out⟩, ⟨by refine blk_put (cs := #[.int .i64 x4_1, .int .i64 (wrap64 (x4_1 + 1)), u280002, .bool true]) ?_ 2 _ rfl; (with_reducible repeat (first | refine blk_drewN ?_ _ | refine blk_drew ?_ | refine blk_alloc ?_ _)); exact BK279.out⟩, ⟨by repeat (first | (with_reducible first | exact HB.out | apply below_alloc | apply pw_below_drewN | apply below_drew1 | refine below_set ?_ GE260.out | refine below_set ?_ GE279.out) | exact HB.out)⟩⟩
           ·rw [if_neg c33] at H
            exact absurd H (by simp)
          ·rw [if_neg c32] at H
           exact absurd H (by simp)
         ·rw [if_neg c31] at H
          have c31b0 : decide (x9_3 < (t276.length : Int)) = false := decide_eq_false c31
          clear c31
          have H' := Aside0.mk H
          clear H
          obtain ⟨Ao39, co39, eo39⟩ := Kd.R_slice HO_6.out
          subst eo39
          go_wp2
          go_loopg [10] k3 (fun kq v10 w' => ∃ (x10_4 : Int) (x280003_4 : Bool), v10 = .int .i64 x10_4 ∧ Aside0 (tithebarnref17_Pick.l3 kq l0 x4_1 x10_4 x4_1 (wrap64 (x4_1 + 1)) x280002_3 x280003_4 = some (r1, r2, r3, r4, r5)) ∧ Aside0 (kq ≤ k3) ∧ Aside0 (Kd.R (Kd.int .i64) 3 w' w.heap.size (fun _ => True) u280002 x280002_3) ∧ Aside0 (w'.heap[gb260]? = some (.cells #[.int .i64 0, .int .i64 0, (.slice none 0 0), .bool false] 30 (0, 0))) ∧ Aside0 (w'.heap[gb279]? = some (.cells #[.int .i64 x4_1, .int .i64 (wrap64 (x4_1 + 1)), u280002, .bool x280003_4] 30 (0, 0))) ∧ Aside0 (Below w.heap.size w w'))
          case atStart => exact ⟨(0), (true), (by first | rfl | (simp; done) | (simp [*]; done)), H', ⟨Nat.le_refl _⟩, ⟨by (with_reducible repeat (first | apply Kd.R_alloc | apply Kd.R_drewN | apply Kd.R_drew)); exact HO_280002.out⟩, ⟨by (with_reducible repeat (first | refine blk_drewN ?_ _ | refine blk_drew ?_ | refine blk_alloc ?_ _)); exact BK260.out⟩, ⟨by (with_reducible repeat (first | refine blk_drewN ?_ _ | refine blk_drew ?_ | refine blk_alloc ?_ _)); exact BK279.out⟩, ⟨by repeat (first | (with_reducible first | exact HB.out | apply below_alloc | apply pw_below_drewN | apply below_drew1 | refine below_set ?_ GE260.out | refine below_set ?_ GE279.out) | exact HB.out)⟩⟩
          case round =>
           clear H'
           try clear c1
           try clear c2
           try clear p2
           try clear q2
           try clear hx2
           try clear c3
           try clear c4
           try clear c4b0
           try clear p6
           try clear c7
           try clear c7b0
           try clear c11
           try clear c12
           try clear c12b0
           try clear c12b1
           try clear c22
           try clear c24
           try clear c24b0
           try clear c25
           try clear c25b0
           try clear c26
           try clear p28
           try clear q28
           try clear hx28
           try clear c31
           try clear c31b0
           try clear c32
           try clear c32b0
           try clear c33
           try clear c38
           try clear c39
           try clear hcz13_0 hcz13_1 hcz13_2 hcz13_3
           try clear hcz23_0 hcz23_1 hcz23_2 hcz23_3
           try clear hfz13_0 hfz13_1 hfz13_2 hfz13_3
           try clear hfz23_0 hfz23_1 hfz23_2 hfz23_3
           try clear hx280_0 hx280_1 hx280_2 hx280_3 hx280_4 hx280_5 hx280_6 hx280_7
           try clear hx284_0 hx284_1 hx284_2 hx284_3 hx284_4 hx284_5 hx284_6 hx284_7
           try clear p2
           try clear p28
           try clear p280
           try clear p284
           try clear p6
           try clear q2
           try clear q28
           try clear q280
           try clear q284
           obtain ⟨x10_4, x280003_4, rfl, HA, HK4, HO_280002, BK260, BK279, HB⟩ := hrel
           cases gk with
           | zero => exact absurd HA.out (by simp [tithebarnref17_Pick.l3])
           | succ k4 =>
            have H := HA.out
            clear HA
            simp only [tithebarnref17_Pick.l3] at H
            by_cases c40 : x10_4 < (l0.length : Int)
            ·rw [if_pos c40] at H
             have c40b0 : decide (x10_4 < (l0.length : Int)) = true := decide_eq_true c40
             clear c40
             by_cases c41 : x280003_4 = true
             ·subst c41
              have H1 : (if 0 ≤ x10_4 then (tithebarnref17_Pick.l3 k4 l0 x4_1 (wrap64 (x10_4 + 1)) x4_1 (wrap64 (x4_1 + 1)) x280002_3 (decide (((rd_T38 l0 x10_4).f1) ≤ (wrap64 (x4_1 + 1))))) else (none)) = some (r1, r2, r3, r4, r5) := by rw [if_pos rfl] at H; exact H
              clear H
              have H := H1
              clear H1
              by_cases c42 : 0 ≤ x10_4
              ·rw [if_pos c42] at H
               have c42b0 : decide (0 ≤ x10_4) = true := decide_eq_true c42
               clear c42
               have H' := Aside0.mk H
               clear H
               have hnb43 := NB279_260.out
               have hnc43 := NB260_279.out
               obtain ⟨hcz44_0, hcz44_1, hcz44_2, hcz44_3⟩ := bc4 BK279.out
               obtain ⟨hfz44_0, hfz44_1, hfz44_2, hfz44_3⟩ := bf4 BK279.out
               have p288 : 0 ≤ (x10_4 : Int) := of_decide_eq_true (by with_reducible assumption)
               have q288 : x10_4 < (l0.length : Int) := of_decide_eq_true (by with_reducible assumption)
               obtain ⟨ad288, e288, hx288_0, hx288_1, hx288_2, hx288_3, hx288_4, hx288_5, hx288_6, hx288_7⟩ := at_T38 HR0.out x10_4 p288 q288
               cases e288
               replace hx288_0 := pw_cell_below HB.out hx288_0
               replace hx288_1 := pw_cell_below HB.out hx288_1
               replace hx288_2 := pw_cell_below HB.out hx288_2
               replace hx288_3 := pw_cell_below HB.out hx288_3
               replace hx288_4 := pw_cell_below HB.out hx288_4
               replace hx288_5 := pw_cell_below HB.out hx288_5
               replace hx288_6 := pw_cell_below HB.out hx288_6
               replace hx288_7 := pw_cell_below HB.out hx288_7
               replace p288 := eq_true p288
               replace q288 := eq_true q288
               go_wp2
               go_roundg k4
               case measure => have := HJ1.out; have := HK2.out; have := HK3.out; have := HK4.out; omega
               case rel => exact ⟨(wrap64 (x10_4 + 1)), (decide (((rd_T38 l0 x10_4).f1) ≤ (wrap64 (x4_1 + 1)))), (by first | rfl | (simp; done) | (simp [*]; done)), H', ⟨by have := HJ1.out; have := HK2.out; have := HK3.out; have := HK4.out; omega⟩, ⟨by (with_reducible repeat (first | apply Kd.R_alloc | apply Kd.R_drewN | apply Kd.R_drew)); exact Kd.R_mono (Kd.R_far (p := ⟨gb279, 3, none⟩) (Kd.R_types HO_280002.out BK279.out (by decide)) (fun _ hk => hk.2) (.bool (decide (((rd_T38 l0 x10_4).f1) ≤ (wrap64 (x4_1 + 1)))))) (fun _ hk => trivial)⟩, ⟨by refine blk_far ?_ NB260_279.out _; (with_reducible repeat (first | refine blk_drewN ?_ _ | refine blk_drew ?_ | refine blk_alloc ?_ _)); exact BK260.out⟩, ⟨by refine blk_put (cs := #[.int .i64 x4_1, .int .i64 (wrap64 (x4_1 + 1)), u280002, .bool true]) ?_ 3 _ rfl; (with_reducible repeat (first | refine blk_drewN ?_ _ | refine blk_drew ?_ | refine blk_alloc ?_ _)); exact BK279.out⟩, ⟨by repeat (first | (with_reducible first | exact HB.out | apply below_alloc | apply pw_below_drewN | apply below_drew1 | refine below_set ?_ GE260.out | refine below_set ?_ GE279.out) | exact HB.out)⟩⟩
              ·rw [if_neg c42] at H
               exact absurd H (by simp)
             ·replace c41 := Bool.eq_false_iff.mpr c41
              subst c41
              have H1 : (tithebarnref17_Pick.l3 k4 l0 x4_1 (wrap64 (x10_4 + 1)) x4_1 (wrap64 (x4_1 + 1)) x280002_3 false) = some (r1, r2, r3, r4, r5) := by rw [if_neg (show ¬ (false = true) by decide)] at H; exact H
              clear H
              have H := H1
              clear H1
              have H' := Aside0.mk H
              clear H
              have hnb45 := NB279_260.out
              have hnc45 := NB260_279.out
              obtain ⟨hcz46_0, hcz46_1, hcz46_2, hcz46_3⟩ := bc4 BK279.out
              obtain ⟨hfz46_0, hfz46_1, hfz46_2, hfz46_3⟩ := bf4 BK279.out
              go_wp2
              go_roundg k4
              case measure => have := HJ1.out; have := HK2.out; have := HK3.out; have := HK4.out; omega
              case rel => exact ⟨(wrap64 (x10_4 + 1)), (false), (by first | rfl | (simp; done) | (simp [*]; done)), H', ⟨by have := HJ1.out; have := HK2.out; have := HK3.out; have := HK4.out; omega⟩, ⟨by (with_reducible repeat (first | apply Kd.R_alloc | apply Kd.R_drewN | apply Kd.R_drew)); exact Kd.R_mono (Kd.R_far (p := ⟨gb279, 3, none⟩) (Kd.R_types HO_280002.out BK279.out (by decide)) (fun _ hk => hk.2) (.bool false)) (fun _ hk => trivial)⟩, ⟨by refine blk_far ?_ NB260_279.out _; (with_reducible repeat (first | refine blk_drewN ?_ _ | refine blk_drew ?_ | refine blk_alloc ?_ _)); exact BK260.out⟩, ⟨by refine blk_put (cs := #[.int .i64 x4_1, .int .i64 (wrap64 (x4_1 + 1)), u280002, .bool false]) ?_ 3 _ rfl; (with_reducible repeat (first | refine blk_drewN ?_ _ | refine blk_drew ?_ | refine blk_alloc ?_ _)); exact BK279.out⟩, ⟨by repeat (first | (with_reducible first | exact HB.out | apply below_alloc | apply pw_below_drewN | apply below_drew1 | refine below_set ?_ GE260.out | refine below_set ?_ GE279.out) | exact HB.out)⟩⟩
            ·rw [if_neg c40] at H
             have c40b0 : decide (x10_4 < (l0.length : Int)) = false := decide_eq_false c40
             clear c40
             simp only [Option.some.injEq, Prod.mk.injEq] at H
             obtain ⟨rfl, rfl, rfl, rfl, rfl⟩ := H
             have hnb47 := NB279_260.out
             have hnc47 := NB260_279.out
             obtain ⟨hcz48_0, hcz48_1, hcz48_2, hcz48_3⟩ := bc4 BK279.out
             obtain ⟨hfz48_0, hfz48_1, hfz48_2, hfz48_3⟩ := bf4 BK279.out
             obtain ⟨hcz49_0, hcz49_1, hcz49_2, hcz49_3⟩ := bc4 BK260.out
             obtain ⟨hfz49_0, hfz49_1, hfz49_2, hfz49_3⟩ := bf4 BK260.out
             obtain ⟨Ao50, co50, eo50⟩ := Kd.R_slice HO_280002.out
             subst eo50
             go_wp2
             refine bodyPost_ret (results_ct rfl _ _ gb260 30 #[.int .i64 x4_1, .int .i64 (wrap64 (x4_1 + 1)), .slice Ao50 x280002_3.length co50, .bool x280003_4] (0, 0) _ rfl (by refine blk_put (cs := #[.int .i64 x4_1, .int .i64 (wrap64 (x4_1 + 1)), .slice Ao50 x280002_3.length co50, .bool false]) ?_ 3 _ rfl; refine blk_put (cs := #[.int .i64 x4_1, .int .i64 (wrap64 (x4_1 + 1)), .slice none 0 0, .bool false]) ?_ 2 _ rfl; refine blk_put (cs := #[.int .i64 x4_1, .int .i64 0, .slice none 0 0, .bool false]) ?_ 1 _ rfl; refine blk_put (cs := #[.int .i64 0, .int .i64 0, .slice none 0 0, .bool false]) ?_ 0 _ rfl; (with_reducible repeat (first | refine blk_drewN ?_ _ | refine blk_drew ?_ | refine blk_alloc ?_ _)); exact BK260.out) Try.underlying30 rfl (by kernel_rfl)) rfl ?_
             exact ⟨_, by first | rfl | (simp [errW_none, errW_some] <;> rfl) | (simp [*, errW_none, errW_some] <;> rfl), by (with_reducible repeat (first | apply Kd.R_alloc | apply Kd.R_drewN | apply Kd.R_drew)); exact Kd.R_mono (Kd.R_far (p := ⟨gb260, 3, none⟩) (Kd.R_far (p := ⟨gb260, 2, none⟩) (Kd.R_far (p := ⟨gb260, 1, none⟩) (Kd.R_far (p := ⟨gb260, 0, none⟩) (Kd.R_types HO_280002.out BK260.out (by decide)) (fun _ hk => hk.2) (.int .i64 x4_1)) (fun _ hk => hk.2) (.int .i64 (wrap64 (x4_1 + 1)))) (fun _ hk => hk.2) (.slice Ao50 x280002_3.length co50)) (fun _ hk => hk.2) (.bool x280003_4)) (fun _ hk => trivial), by repeat (first | (with_reducible first | exact HB.out | apply below_alloc | apply pw_below_drewN | apply below_drew1 | refine below_set ?_ GE260.out | refine below_set ?_ GE279.out) | exact HB.out)⟩

end Go.Proofs.Ytcbgcmaioicdbaa.Pr
