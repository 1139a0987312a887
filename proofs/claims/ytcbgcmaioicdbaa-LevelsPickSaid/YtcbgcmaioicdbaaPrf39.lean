-- printed by xprint.py
import Derived.Test.YtcbgcmaioicdbaaPr0
import Derived.Test.YtcbgcmaioicdbaaPrf23
import Derived.Test.YtcbgcmaioicdbaaPrf42
import Derived.Test.YtcbgcmaioicdbaaPrf20
namespace Go.Proofs.Ytcbgcmaioicdbaa.Pr
open Go.RowKit Go.Proofs.YtcbgcmaioicdbaaW PrintWords PrintLast PrintMore
set_option linter.unusedVariables false
set_option linter.unusedSimpArgs false

/-! ### tithebarnref17_below: function 39 -/
mutual
def tithebarnref17_below.l0 : Nat → List (S38) → List (S38) → Int → Int → Int → Bool → Int → ByteArray → Bool → Int → ByteArray → Option ((List (S38)))
 | 0, _, _, _, _, _, _, _, _, _, _, _ => none
 | k + 1, x7, x8, x9, x220000, x220001, x220002, x220003, x220004, x220005, x220006, x220007 => if x9 < (x7.length : Int) then (if 0 ≤ x9 then ((tithebarnref17_Overlap.f ((rd_T38 x7 x9).f0) ((rd_T38 x7 x9).f1) ((rd_T38 x7 x9).f2.f0) ((rd_T38 x7 x9).f2.f1) ((rd_T38 x7 x9).f2.f2) ((rd_T38 x7 x9).f3.f0) ((rd_T38 x7 x9).f3.f1) ((rd_T38 x7 x9).f3.f2) x220000 x220001 x220002 x220003 x220004 x220005 x220006 x220007).bind fun t224 => (if t224 = true then (tithebarnref17_below.l1 k x7 x8 x9 (x8.length : Int) x220000 x220001 x220002 x220003 x220004 x220005 x220006 x220007) else (tithebarnref17_below.l0 k x7 x8 (wrap64 (x9 + 1)) x220000 x220001 x220002 x220003 x220004 x220005 x220006 x220007))) else (none)) else (some x8)
def tithebarnref17_below.l1 : Nat → List (S38) → List (S38) → Int → Int → Int → Int → Bool → Int → ByteArray → Bool → Int → ByteArray → Option ((List (S38)))
 | 0, _, _, _, _, _, _, _, _, _, _, _, _ => none
 | k + 1, x7, x8, x9, x10, x220000, x220001, x220002, x220003, x220004, x220005, x220006, x220007 => if x10 > 0 then (if 0 ≤ x9 then (if x9 < (x7.length : Int) then (if 0 ≤ (wrap64 (x10 - 1)) then (if (wrap64 (x10 - 1)) < (x8.length : Int) then ((tithebarnref02_Ahead_c.f ((rd_T38 x7 x9).f2.f0) ((rd_T38 x7 x9).f2.f1) ((rd_T38 x7 x9).f2.f2) ((rd_T38 x8 (wrap64 (x10 - 1))).f2.f0) ((rd_T38 x8 (wrap64 (x10 - 1))).f2.f1) ((rd_T38 x8 (wrap64 (x10 - 1))).f2.f2)).bind fun t227 => (tithebarnref17_below.j2 k x7 x8 x9 x10 t227 x220000 x220001 x220002 x220003 x220004 x220005 x220006 x220007)) else (none)) else (none)) else (none)) else (none)) else (tithebarnref17_below.j2 k x7 x8 x9 x10 false x220000 x220001 x220002 x220003 x220004 x220005 x220006 x220007)
def tithebarnref17_below.j2 : Nat → List (S38) → List (S38) → Int → Int → Bool → Int → Int → Bool → Int → ByteArray → Bool → Int → ByteArray → Option ((List (S38)))
 | 0, _, _, _, _, _, _, _, _, _, _, _, _, _ => none
 | k + 1, x7, x8, x9, x10, x44, x220000, x220001, x220002, x220003, x220004, x220005, x220006, x220007 => if x44 = true then (tithebarnref17_below.l1 k x7 x8 x9 (wrap64 (x10 - 1)) x220000 x220001 x220002 x220003 x220004 x220005 x220006 x220007) else (if 0 ≤ x10 then (if x10 ≤ (x8.length : Int) then ((some (x8.take (x10 : Int).toNat : List (S38))).bind fun y228 => (if ([] : List (S38)).length + y228.length < 1759218604441 then ((some (([] : List (S38)) ++ y228 : List (S38))).bind fun y233 => (if 0 ≤ x9 then (if x9 < (x7.length : Int) then ((some (([(⟨(rd_T38 x7 x9).f0, (rd_T38 x7 x9).f1, (⟨(rd_T38 x7 x9).f2.f0, (rd_T38 x7 x9).f2.f1, (rd_T38 x7 x9).f2.f2⟩ : S36), (⟨(rd_T38 x7 x9).f3.f0, (rd_T38 x7 x9).f3.f1, (rd_T38 x7 x9).f3.f2⟩ : S36)⟩ : S38)] : List (S38)) : List (S38))).bind fun y237 => (if y233.length + y237.length < 1759218604441 then ((some (y233 ++ y237 : List (S38))).bind fun y240 => ((some (x8.drop (x10 : Int).toNat : List (S38))).bind fun y243 => (if y240.length + y243.length < 1759218604441 then (tithebarnref17_below.l0 k x7 (y240 ++ y243) (wrap64 (x9 + 1)) x220000 x220001 x220002 x220003 x220004 x220005 x220006 x220007) else (none)))) else (none))) else (none)) else (none))) else (none))) else (none)) else (none))
end
def tithebarnref17_below.f (k : Nat) (l0 : List (S38)) (a1 : Int) (a2_0 : Int) (a2_1 : Int) (a2_2 : Bool) (a2_3 : Int) (a2_4 : ByteArray) (a2_5 : Bool) (a2_6 : Int) (a2_7 : ByteArray) : Option ((List (S38))) := (tithebarnref17_Of.f k l0 a1).bind fun t220 => (tithebarnref17_below.l0 k t220 ([] : List (S38)) 0 a2_0 a2_1 a2_2 a2_3 a2_4 a2_5 a2_6 a2_7)
theorem tithebarnref17_below.mono_l : ∀ k, (∀ y0 y1 y2 y3 y4 y5 y6 y7 y8 y9 y10, LeO (tithebarnref17_below.l0 k y0 y1 y2 y3 y4 y5 y6 y7 y8 y9 y10) (tithebarnref17_below.l0 (k + 1) y0 y1 y2 y3 y4 y5 y6 y7 y8 y9 y10)) ∧ (∀ y0 y1 y2 y3 y4 y5 y6 y7 y8 y9 y10 y11, LeO (tithebarnref17_below.l1 k y0 y1 y2 y3 y4 y5 y6 y7 y8 y9 y10 y11) (tithebarnref17_below.l1 (k + 1) y0 y1 y2 y3 y4 y5 y6 y7 y8 y9 y10 y11)) ∧ (∀ y0 y1 y2 y3 y4 y5 y6 y7 y8 y9 y10 y11 y12, LeO (tithebarnref17_below.j2 k y0 y1 y2 y3 y4 y5 y6 y7 y8 y9 y10 y11 y12) (tithebarnref17_below.j2 (k + 1) y0 y1 y2 y3 y4 y5 y6 y7 y8 y9 y10 y11 y12))
 | 0 => ⟨fun _ _ _ _ _ _ _ _ _ _ _ r h => by simp [tithebarnref17_below.l0] at h, fun _ _ _ _ _ _ _ _ _ _ _ _ r h => by simp [tithebarnref17_below.l1] at h, fun _ _ _ _ _ _ _ _ _ _ _ _ _ r h => by simp [tithebarnref17_below.j2] at h⟩
 | k + 1 => by
  obtain ⟨ih0, ih1, ih2⟩ := tithebarnref17_below.mono_l k
  refine ⟨?_, ?_, ?_⟩
  ·intro y0 y1 y2 y3 y4 y5 y6 y7 y8 y9 y10
   unfold tithebarnref17_below.l0
   repeat' first
   | (with_reducible exact ih0 _ _ _ _ _ _ _ _ _ _ _)
   | (with_reducible exact ih1 _ _ _ _ _ _ _ _ _ _ _ _)
   | (with_reducible exact ih2 _ _ _ _ _ _ _ _ _ _ _ _ _)
   | (with_reducible exact tithebarnref17_Of.mono _ _ _)
   | (with_reducible exact LeO.refl _)
   | (with_reducible exact LeO.none _)
   | (with_reducible refine LeO.ite ?_ ?_)
   | (with_reducible refine LeO.bind ?_ (fun _ => ?_))
  ·intro y0 y1 y2 y3 y4 y5 y6 y7 y8 y9 y10 y11
   unfold tithebarnref17_below.l1
   repeat' first
   | (with_reducible exact ih0 _ _ _ _ _ _ _ _ _ _ _)
   | (with_reducible exact ih1 _ _ _ _ _ _ _ _ _ _ _ _)
   | (with_reducible exact ih2 _ _ _ _ _ _ _ _ _ _ _ _ _)
   | (with_reducible exact tithebarnref17_Of.mono _ _ _)
   | (with_reducible exact LeO.refl _)
   | (with_reducible exact LeO.none _)
   | (with_reducible refine LeO.ite ?_ ?_)
   | (with_reducible refine LeO.bind ?_ (fun _ => ?_))
  ·intro y0 y1 y2 y3 y4 y5 y6 y7 y8 y9 y10 y11 y12
   unfold tithebarnref17_below.j2
   repeat' first
   | (with_reducible exact ih0 _ _ _ _ _ _ _ _ _ _ _)
   | (with_reducible exact ih1 _ _ _ _ _ _ _ _ _ _ _ _)
   | (with_reducible exact ih2 _ _ _ _ _ _ _ _ _ _ _ _ _)
   | (with_reducible exact tithebarnref17_Of.mono _ _ _)
   | (with_reducible exact LeO.refl _)
   | (with_reducible exact LeO.none _)
   | (with_reducible refine LeO.ite ?_ ?_)
   | (with_reducible refine LeO.bind ?_ (fun _ => ?_))
theorem tithebarnref17_below.mono : ∀ a0 a1 a2 a3 a4 a5 a6 a7 a8 a9 k, LeO (tithebarnref17_below.f k a0 a1 a2 a3 a4 a5 a6 a7 a8 a9) (tithebarnref17_below.f (k + 1) a0 a1 a2 a3 a4 a5 a6 a7 a8 a9) := by
 intro a0 a1 a2 a3 a4 a5 a6 a7 a8 a9 k
 obtain ⟨ih0, ih1, ih2⟩ := tithebarnref17_below.mono_l k
 unfold tithebarnref17_below.f
 repeat' first
   | (with_reducible exact ih0 _ _ _ _ _ _ _ _ _ _ _)
   | (with_reducible exact ih1 _ _ _ _ _ _ _ _ _ _ _ _)
   | (with_reducible exact ih2 _ _ _ _ _ _ _ _ _ _ _ _ _)
   | (with_reducible exact tithebarnref17_Of.mono _ _ _)
   | (with_reducible exact LeO.refl _)
   | (with_reducible exact LeO.none _)
   | (with_reducible refine LeO.ite ?_ ?_)
   | (with_reducible refine LeO.bind ?_ (fun _ => ?_))
def tithebarnref17_below.T8 : Bool × List (List Nat × List Nat) := (true, [([], []), ([0], [0]), ([1], [1]), ([2], [2]), ([2], [2]), ([3, 4, 2], [2, 3, 4]), ([5, 2], [2, 5]), ([6, 2], [2, 6]), ([2], [2]), ([2], [2]), ([9, 2], [2, 9]), ([8, 10, 2], [2, 8, 10]), ([11, 2], [2, 11]), ([12, 2], [2, 12]), ([7, 13, 2, 2], [2, 7, 13]), ([2, 14], [2, 14])])
def tithebarnref17_below.B8 : List Nat := [0, 1, 3, 7, 7, 31, 63, 127, 7, 7, 519, 1799, 3847, 7943, 16383, 32767]
theorem tithebarnref17_below.tab8 : rtab .any (opsOf Try.f39 8) = tithebarnref17_below.T8 := by kernel_rfl
theorem tithebarnref17_below.bits8 : waitsOk tithebarnref17_below.T8.2 tithebarnref17_below.B8 = true := by kernel_rfl
def tithebarnref17_below.T10 : Bool × List (List Nat × List Nat) := (true, [([], []), ([], []), ([0, 1], [0, 1]), ([2], [2]), ([], []), ([], []), ([4, 5], [4, 5]), ([6], [6]), ([7], [7]), ([3, 8, 3], [3, 8]), ([], []), ([], []), ([10, 11], [10, 11]), ([9, 12, 9], [9, 12]), ([13, 13, 0, 1, 2, 3, 4, 5, 6, 7, 8, 9, 10, 11, 12, 13], [0, 10, 13])])
def tithebarnref17_below.B10 : List Nat := [0, 0, 3, 7, 0, 0, 48, 112, 240, 511, 0, 0, 3072, 8191, 16383]
theorem tithebarnref17_below.tab10 : rtab .any (opsOf Try.f39 10) = tithebarnref17_below.T10 := by kernel_rfl
theorem tithebarnref17_below.bits10 : waitsOk tithebarnref17_below.T10.2 tithebarnref17_below.B10 = true := by kernel_rfl
set_option maxHeartbeats 8000000 in
set_option maxRecDepth 100000 in
theorem tithebarnref17_below.calls (k : Nat) (A0 : Option Addr) (c0 : Nat) (l0 : List (S38)) (a1 : Int) (a2_0 : Int) (a2_1 : Int) (a2_2 : Bool) (a2_3 : Int) (a2_4 : ByteArray) (a2_5 : Bool) (a2_6 : Int) (a2_7 : ByteArray) (r : List (S38)) (w : World) (hr0 : Kd.C k38 w A0 l0.length l0) (hc0 : l0.length ≤ c0) (h : tithebarnref17_below.f k l0 a1 a2_0 a2_1 a2_2 a2_3 a2_4 a2_5 a2_6 a2_7 = some r) :
  Calls Try.prog 39 #[.slice A0 l0.length c0, .int .i64 a1, .agg #[.int .i64 a2_0, .int .i64 a2_1, .bool a2_2, .int .i64 a2_3, .string a2_4, .bool a2_5, .int .i64 a2_6, .string a2_7]] w fun e w' => ∃ v0_ : Value, e = .returned (v0_) ∧ Kd.R k38 38 w' w.heap.size (fun _ => True) v0_ r ∧ Below w.heap.size w w' := by
 have hu38 := Try.underlying38
 have hu36 := Try.underlying36
 have HR0 := Aside0.mk hr0
 have HC0 := Aside0.mk hc0
 clear hr0 hc0
 have HB := Aside0.mk (Below.refl w.heap.size w)
 have H : ((tithebarnref17_Of.f k l0 a1).bind fun t220 => (tithebarnref17_below.l0 k t220 ([] : List (S38)) 0 a2_0 a2_1 a2_2 a2_3 a2_4 a2_5 a2_6 a2_7)) = some r := h
 clear h
 replace H := Option.bind_eq_some_iff.mp H
 obtain ⟨t220, A40, H⟩ := H
 replace H : (tithebarnref17_below.l0 k t220 ([] : List (S38)) 0 a2_0 a2_1 a2_2 a2_3 a2_4 a2_5 a2_6 a2_7) = some r := H
 have A4 := Aside0.mk A40
 clear A40
 have H' := Aside0.mk H
 clear H
 go_enter Try.func39, Try.ntmps39
 go_wp2_with (first | ((with_reducible refine gate_dst (N := 5) rfl ?_); refine box_event ?hg (N := 5) ?hd (cs := #[.int .i64 a2_0, .int .i64 a2_1, .bool a2_2, .int .i64 a2_3, .string a2_4, .bool a2_5, .int .i64 a2_6, .string a2_7]) (t := 38) ?hr ?_; (case hd => rfl); (case hg => rfl); (case hr => first | (go_simp; done) | (go_simp; rfl)); intro gb219 hg w5 hbox hb; have n0_ := Aside0.mk (below_step (by with_reducible repeat first | exact HB.out | apply below_alloc | apply pw_below_drewN | apply below_drew1) hb); have n1_ := Aside0.mk (hbox); have n2_ := Aside0.mk ((by rw [hg]; exact (below_size (by with_reducible repeat first | exact HB.out | apply below_alloc | apply pw_below_drewN | apply below_drew1)) : w.heap.size ≤ gb219)); have n3_ := Aside0.mk ((by rw [hg]; exact (below_size (by with_reducible repeat first | exact HB.out | apply below_alloc | apply pw_below_drewN | apply below_drew1)) : w.heap.size ≤ gb219)); clear HB; have HB := n0_; have BK219 := n1_; have GW219 := n2_; have GE219 := n3_; clear n0_ n1_ n2_ n3_; clear hb hbox hg) | ((with_reducible refine gate_callee (f := 23) rfl ?_); refine goesL_ (some 13) rfl rfl Try.func23 (by kernel_rfl) rfl #[.slice A0 l0.length c0, .int .i64 a1] rfl (by (try simp only [List.map_toArray, List.map_cons, List.map_nil]); first | done | rfl | (simp only [List.length_drop, List.length_take]; rfl)) ?_; (with_reducible refine (tithebarnref17_Of.calls k _ _ l0 a1 t220 _ ?side1 ?side2 A4.out).mono ?_); (case side1 => repeat (first | exact (Kd.C_below HR0.out HB.out) | (with_reducible refine Kd.C_alloc ?_ _) | (with_reducible refine Kd.C_drewN ?_ _) | (with_reducible refine Kd.C_drew ?_))); (case side2 => exact HC0.out); rintro e w6 ⟨v221, rfl, ho0, hb⟩; refine ⟨_, rfl, ?_⟩; have n0_ := Aside0.mk (Kd.R_lower (Kd.R_newB ho0 (g := gb219) (o := .cells #[.int .i64 a2_0, .int .i64 a2_1, .bool a2_2, .int .i64 a2_3, .string a2_4, .bool a2_5, .int .i64 a2_6, .string a2_7] 38 (0, 0)) (by (with_reducible repeat (first | refine blk_drewN ?_ _ | refine blk_drew ?_ | refine blk_alloc ?_ _)); exact BK219.out)) (below_size (by with_reducible repeat first | exact HB.out | apply below_alloc | apply pw_below_drewN | apply below_drew1 | refine below_set ?_ GE219.out))); have n1_ := Aside0.mk (blk_below (g := gb219) (o := .cells #[.int .i64 a2_0, .int .i64 a2_1, .bool a2_2, .int .i64 a2_3, .string a2_4, .bool a2_5, .int .i64 a2_6, .string a2_7] 38 (0, 0)) (by (with_reducible repeat (first | refine blk_drewN ?_ _ | refine blk_drew ?_ | refine blk_alloc ?_ _)); exact BK219.out) hb); have n2_ := Aside0.mk (below_step (by with_reducible repeat first | exact HB.out | apply below_alloc | apply pw_below_drewN | apply below_drew1 | refine below_set ?_ GE219.out) hb); clear BK219; clear HB; have HO222 := n0_; have BK219 := n1_; have HB := n2_; clear n0_ n1_ n2_; (try clear hb); (try clear hb2); (try clear hk); (try clear hi); (try clear ho0)))
 go_loopg [8, 9] k (fun kq v8 v9 w' => ∃ (x8_1 : List (S38)) (x9_1 : Int), v9 = .int .i64 x9_1 ∧ Aside0 (tithebarnref17_below.l0 kq t220 x8_1 x9_1 a2_0 a2_1 a2_2 a2_3 a2_4 a2_5 a2_6 a2_7 = some r) ∧ Aside0 (kq ≤ k) ∧ Aside0 (Kd.R k38 38 w' w.heap.size (fun k_ => some k_ ≠ (v8 : Value).ownBlock ∧ k_ ≠ gb219) v221 t220) ∧ Aside0 (Kd.R k38 38 w' w.heap.size (fun k_ => some k_ ≠ (v221 : Value).ownBlock ∧ k_ ≠ gb219) v8 x8_1) ∧ Aside0 (w'.heap[gb219]? = some (.cells #[.int .i64 a2_0, .int .i64 a2_1, .bool a2_2, .int .i64 a2_3, .string a2_4, .bool a2_5, .int .i64 a2_6, .string a2_7] 38 (0, 0))) ∧ Aside0 (Below w.heap.size w w'))
 case atStart => exact ⟨(([] : List (S38))), (0), (by first | rfl | (simp; done) | (simp [*]; done)), H', ⟨Nat.le_refl _⟩, ⟨by (with_reducible repeat (first | apply Kd.R_alloc | apply Kd.R_drewN | apply Kd.R_drew)); exact Kd.R_mono HO222.out (fun _ hk => ⟨(by simp [Value.ownBlock]), hk.2⟩)⟩, ⟨by first | exact Kd.R_nil _ _ _ _ _ | exact Kd.N_nil _ _ _ _ _ | exact Kd.V_nil _ _ _ _ _ | exact Kd.Q_nil _ _ _ _ _ | exact Kd.S_nil _ _ _ _ _⟩, ⟨by (with_reducible repeat (first | refine blk_drewN ?_ _ | refine blk_drew ?_ | refine blk_alloc ?_ _)); exact BK219.out⟩, ⟨by repeat (first | (with_reducible first | exact HB.out | apply below_alloc | apply pw_below_drewN | apply below_drew1 | refine below_set ?_ GE219.out) | exact HB.out)⟩⟩
 case round =>
  clear H'
  try clear c2
  try clear p2
  try clear c3
  obtain ⟨x8_1, x9_1, rfl, HA, HK1, HO_7, HO_8, BK219, HB⟩ := hrel
  cases gk with
  | zero => exact absurd HA.out (by simp [tithebarnref17_below.l0])
  | succ k1 =>
   have H := HA.out
   clear HA
   simp only [tithebarnref17_below.l0] at H
   by_cases c7 : x9_1 < (t220.length : Int)
   ·rw [if_pos c7] at H
    have c7b0 : decide (x9_1 < (t220.length : Int)) = true := decide_eq_true c7
    clear c7
    by_cases c8 : 0 ≤ x9_1
    ·rw [if_pos c8] at H
     have c8b0 : decide (0 ≤ x9_1) = true := decide_eq_true c8
     clear c8
     replace H := Option.bind_eq_some_iff.mp H
     obtain ⟨t224, A90, H⟩ := H
     replace H : (if t224 = true then (tithebarnref17_below.l1 k1 t220 x8_1 x9_1 (x8_1.length : Int) a2_0 a2_1 a2_2 a2_3 a2_4 a2_5 a2_6 a2_7) else (tithebarnref17_below.l0 k1 t220 x8_1 (wrap64 (x9_1 + 1)) a2_0 a2_1 a2_2 a2_3 a2_4 a2_5 a2_6 a2_7)) = some r := H
     have A9 := Aside0.mk A90
     clear A90
     by_cases c10 : t224 = true
     ·subst c10
      have H1 : (tithebarnref17_below.l1 k1 t220 x8_1 x9_1 (x8_1.length : Int) a2_0 a2_1 a2_2 a2_3 a2_4 a2_5 a2_6 a2_7) = some r := by rw [if_pos rfl] at H; exact H
      clear H
      have H := H1
      clear H1
      have H' := Aside0.mk H
      clear H
      obtain ⟨Ao11, co11, eo11⟩ := Kd.R_slice HO_7.out
      subst eo11
      try go_wp2
      have n0_ := Aside0.mk (Kd.R_drew HO_7.out)
      have n1_ := Aside0.mk (Kd.R_drew HO_8.out)
      have n2_ := Aside0.mk (blk_drew BK219.out)
      have n3_ := Aside0.mk (below_drew1 HB.out)
      clear HO_7
      clear HO_8
      clear BK219
      clear HB
      have HO_7 := n0_
      have HO_8 := n1_
      have BK219 := n2_
      have HB := n3_
      clear n0_ n1_ n2_ n3_
      have p223 : 0 ≤ (x9_1 : Int) := of_decide_eq_true (by with_reducible assumption)
      have q223 : x9_1 < (t220.length : Int) := of_decide_eq_true (by with_reducible assumption)
      obtain ⟨ad223, e223, hx223_0, hx223_1, hx223_2, hx223_3, hx223_4, hx223_5, hx223_6, hx223_7⟩ := at_T38 (Kd.R_reads' HO_7.out).2.2 x9_1 p223 q223
      cases e223
      replace p223 := eq_true p223
      replace q223 := eq_true q223
      refine start_ (n := 7) (S := fun w' => w'.cell? ⟨gb219, 0, none⟩ = some (.int .i64 a2_0) ∧ w'.cell? ⟨gb219, 1, none⟩ = some (.int .i64 a2_1) ∧ w'.cell? ⟨gb219, 2, none⟩ = some (.bool a2_2) ∧ w'.cell? ⟨gb219, 3, none⟩ = some (.int .i64 a2_3) ∧ w'.cell? ⟨gb219, 4, none⟩ = some (.string a2_4) ∧ w'.cell? ⟨gb219, 5, none⟩ = some (.bool a2_5) ∧ w'.cell? ⟨gb219, 6, none⟩ = some (.int .i64 a2_6) ∧ w'.cell? ⟨gb219, 7, none⟩ = some (.string a2_7) ∧ w'.cell? (ad223.add ((x9_1).toNat * 8)) = some (.int .i64 ((rd_T38 t220 x9_1).f0)) ∧ w'.cell? ⟨(ad223.add ((x9_1).toNat * 8)).block, (ad223.add ((x9_1).toNat * 8)).off + 1, none⟩ = some (.int .i64 ((rd_T38 t220 x9_1).f1)) ∧ w'.cell? ⟨(ad223.add ((x9_1).toNat * 8)).block, (ad223.add ((x9_1).toNat * 8)).off + 2, none⟩ = some (.bool ((rd_T38 t220 x9_1).f2.f0)) ∧ w'.cell? ⟨(ad223.add ((x9_1).toNat * 8)).block, (ad223.add ((x9_1).toNat * 8)).off + 3, none⟩ = some (.int .i64 ((rd_T38 t220 x9_1).f2.f1)) ∧ w'.cell? ⟨(ad223.add ((x9_1).toNat * 8)).block, (ad223.add ((x9_1).toNat * 8)).off + 4, none⟩ = some (.string ((rd_T38 t220 x9_1).f2.f2)) ∧ w'.cell? ⟨(ad223.add ((x9_1).toNat * 8)).block, (ad223.add ((x9_1).toNat * 8)).off + 5, none⟩ = some (.bool ((rd_T38 t220 x9_1).f3.f0)) ∧ w'.cell? ⟨(ad223.add ((x9_1).toNat * 8)).block, (ad223.add ((x9_1).toNat * 8)).off + 6, none⟩ = some (.int .i64 ((rd_T38 t220 x9_1).f3.f1)) ∧ w'.cell? ⟨(ad223.add ((x9_1).toNat * 8)).block, (ad223.add ((x9_1).toNat * 8)).off + 7, none⟩ = some (.string ((rd_T38 t220 x9_1).f3.f2))) (ds := []) #[false, false, false, false, false, false, false] (by kernel_rfl) rfl rfl ⟨(blk_cell BK219.out 0).trans rfl, (blk_cell BK219.out 1).trans rfl, (blk_cell BK219.out 2).trans rfl, (blk_cell BK219.out 3).trans rfl, (blk_cell BK219.out 4).trans rfl, (blk_cell BK219.out 5).trans rfl, (blk_cell BK219.out 6).trans rfl, (blk_cell BK219.out 7).trans rfl, hx223_0, hx223_1, hx223_2, hx223_3, hx223_4, hx223_5, hx223_6, hx223_7⟩ (fun hHeld => ?_)
      generalize wr.drew = w12 at HO_7 HO_8 BK219 HB hx223_0 hx223_1 hx223_2 hx223_3 hx223_4 hx223_5 hx223_6 hx223_7 hHeld ⊢
      refine pure_ (i := 0) (N := some 20) (v := ?_) (a' := ?_) #[true, false, false, false, false, false, false] rfl rfl (by kernel_rfl) (fun _ _ _ h => h) (Or.inl ⟨by rfl, ?_⟩) ?_ ?_
      rotate_left
      ·intro w'
       go_simp
       with_reducible rfl
      rotate_left
      ·simp only [Act.put, List.setIfInBounds_toArray, List.set_cons_zero, List.set_cons_succ, i64_w, i32_w]
       rfl
      refine pure_ (i := 1) (N := some 21) (v := ?_) (a' := ?_) #[true, true, false, false, false, false, false] rfl rfl (by kernel_rfl) (fun _ _ _ h => h) (Or.inl ⟨by rfl, ?_⟩) ?_ ?_
      rotate_left
      ·intro w'
       go_simp
       with_reducible rfl
      rotate_left
      ·simp only [Act.put, List.setIfInBounds_toArray, List.set_cons_zero, List.set_cons_succ, i64_w, i32_w]
       rfl
      refine pure_ (i := 2) (N := some 22) (v := ?_) (a' := ?_) #[true, true, true, false, false, false, false] rfl rfl (by kernel_rfl) (fun _ _ _ h => h) (Or.inl ⟨by rfl, ?_⟩) ?_ ?_
      rotate_left
      ·intro w'
       go_simp
       with_reducible rfl
      rotate_left
      ·simp only [Act.put, List.setIfInBounds_toArray, List.set_cons_zero, List.set_cons_succ, i64_w, i32_w]
       rfl
      refine take_ (i := 3) (N := some 23) (v := ?_) (a' := ?_) #[true, true, true, true, false, false, false] rfl rfl (by kernel_rfl) (fun _ _ _ h => h) (Or.inl ⟨by rfl, ?_⟩) hHeld ?_ ?_
      rotate_left
      ·rintro w' ⟨s0, s1, s2, s3, s4, s5, s6, s7, s8, s9, s10, s11, s12, s13, s14, s15⟩
       go_simp
       with_reducible rfl
      rotate_left
      ·simp only [Act.put, List.setIfInBounds_toArray, List.set_cons_zero, List.set_cons_succ, i64_w, i32_w]
       rfl
      refine take_ (i := 4) (N := some 24) (v := ?_) (a' := ?_) #[true, true, true, true, true, false, false] rfl rfl (by kernel_rfl) (fun _ _ _ h => h) (Or.inl ⟨by rfl, ?_⟩) hHeld ?_ ?_
      rotate_left
      ·rintro w' ⟨s0, s1, s2, s3, s4, s5, s6, s7, s8, s9, s10, s11, s12, s13, s14, s15⟩
       go_simp
       with_reducible rfl
      rotate_left
      ·simp only [Act.put, List.setIfInBounds_toArray, List.set_cons_zero, List.set_cons_succ, i64_w, i32_w]
       rfl
      refine one_ (i := 5) (N := some 25) #[true, true, true, true, true, true, false] rfl rfl (by kernel_rfl) (by decide) (fun K hK => ?_)
      refine goes_ Try.func20 (by kernel_rfl) rfl #[.agg #[.int .i64 ((rd_T38 t220 x9_1).f0), .int .i64 ((rd_T38 t220 x9_1).f1), .bool ((rd_T38 t220 x9_1).f2.f0), .int .i64 ((rd_T38 t220 x9_1).f2.f1), .string ((rd_T38 t220 x9_1).f2.f2), .bool ((rd_T38 t220 x9_1).f3.f0), .int .i64 ((rd_T38 t220 x9_1).f3.f1), .string ((rd_T38 t220 x9_1).f3.f2)], .agg #[.int .i64 a2_0, .int .i64 a2_1, .bool a2_2, .int .i64 a2_3, .string a2_4, .bool a2_5, .int .i64 a2_6, .string a2_7]] (by rfl) rfl rfl (by (try simp only [List.map_toArray, List.map_cons, List.map_nil]); first | done | rfl | (simp only [List.length_drop, List.length_take]; rfl)) ?_
      with_reducible refine (tithebarnref17_Overlap.calls ((rd_T38 t220 x9_1).f0) ((rd_T38 t220 x9_1).f1) ((rd_T38 t220 x9_1).f2.f0) ((rd_T38 t220 x9_1).f2.f1) ((rd_T38 t220 x9_1).f2.f2) ((rd_T38 t220 x9_1).f3.f0) ((rd_T38 t220 x9_1).f3.f1) ((rd_T38 t220 x9_1).f3.f2) a2_0 a2_1 a2_2 a2_3 a2_4 a2_5 a2_6 a2_7 true _ A9.out).mono ?_
      rintro e w13 ⟨rfl, hb⟩
      have HS8_ := (hb.cell (World.block_lt_of_cell? _ _ (hHeld.2.2.2.2.2.2.2.2.1))).trans (hHeld.2.2.2.2.2.2.2.2.1)
      have HS9_ := (hb.cell (World.block_lt_of_cell? _ _ (hHeld.2.2.2.2.2.2.2.2.2.1))).trans (hHeld.2.2.2.2.2.2.2.2.2.1)
      have HS10_ := (hb.cell (World.block_lt_of_cell? _ _ (hHeld.2.2.2.2.2.2.2.2.2.2.1))).trans (hHeld.2.2.2.2.2.2.2.2.2.2.1)
      have HS11_ := (hb.cell (World.block_lt_of_cell? _ _ (hHeld.2.2.2.2.2.2.2.2.2.2.2.1))).trans (hHeld.2.2.2.2.2.2.2.2.2.2.2.1)
      have HS12_ := (hb.cell (World.block_lt_of_cell? _ _ (hHeld.2.2.2.2.2.2.2.2.2.2.2.2.1))).trans (hHeld.2.2.2.2.2.2.2.2.2.2.2.2.1)
      have HS13_ := (hb.cell (World.block_lt_of_cell? _ _ (hHeld.2.2.2.2.2.2.2.2.2.2.2.2.2.1))).trans (hHeld.2.2.2.2.2.2.2.2.2.2.2.2.2.1)
      have HS14_ := (hb.cell (World.block_lt_of_cell? _ _ (hHeld.2.2.2.2.2.2.2.2.2.2.2.2.2.2.1))).trans (hHeld.2.2.2.2.2.2.2.2.2.2.2.2.2.2.1)
      have HS15_ := (hb.cell (World.block_lt_of_cell? _ _ (hHeld.2.2.2.2.2.2.2.2.2.2.2.2.2.2.2))).trans (hHeld.2.2.2.2.2.2.2.2.2.2.2.2.2.2.2)
      refine ⟨_, rfl, ?_⟩
      have n0_ := Aside0.mk (Kd.R_below (by (with_reducible repeat (first | apply Kd.R_alloc | apply Kd.R_drewN | apply Kd.R_drew)); exact HO_7.out) hb)
      have n1_ := Aside0.mk (Kd.R_below (by (with_reducible repeat (first | apply Kd.R_alloc | apply Kd.R_drewN | apply Kd.R_drew)); exact HO_8.out) hb)
      have n2_ := Aside0.mk (blk_below (g := gb219) (o := .cells #[.int .i64 a2_0, .int .i64 a2_1, .bool a2_2, .int .i64 a2_3, .string a2_4, .bool a2_5, .int .i64 a2_6, .string a2_7] 38 (0, 0)) (by (with_reducible repeat (first | refine blk_drewN ?_ _ | refine blk_drew ?_ | refine blk_alloc ?_ _)); exact BK219.out) hb)
      have n3_ := Aside0.mk (below_step (by with_reducible repeat first | exact HB.out | apply below_alloc | apply pw_below_drewN | apply below_drew1 | refine below_set ?_ GE219.out) hb)
      clear HO_7
      clear HO_8
      clear BK219
      clear HB
      have HO_7 := n0_
      have HO_8 := n1_
      have BK219 := n2_
      have HB := n3_
      clear n0_ n1_ n2_ n3_
      (try clear hb)
      (try clear hb2)
      (try clear hk)
      (try clear hi)
      refine hK.out _ _ ⟨(blk_cell BK219.out 0).trans rfl, (blk_cell BK219.out 1).trans rfl, (blk_cell BK219.out 2).trans rfl, (blk_cell BK219.out 3).trans rfl, (blk_cell BK219.out 4).trans rfl, (blk_cell BK219.out 5).trans rfl, (blk_cell BK219.out 6).trans rfl, (blk_cell BK219.out 7).trans rfl, HS8_, HS9_, HS10_, HS11_, HS12_, HS13_, HS14_, HS15_⟩ (fun hHeld => ?_)
      clear hK K
      refine norm_ (a' := ?_) ?_ ?_
      rotate_left
      ·show Act.put _ (some 25) _ = _
       simp only [Act.put, List.setIfInBounds_toArray, List.set_cons_zero, List.set_cons_succ, i64_w, i32_w]
       rfl
      refine pure_ (i := 6) (N := some 26) (v := ?_) (a' := ?_) #[true, true, true, true, true, true, true] rfl rfl (by kernel_rfl) (fun _ _ _ h => h) (Or.inl ⟨by rfl, ?_⟩) ?_ ?_
      rotate_left
      ·intro w'
       go_simp
       with_reducible rfl
      rotate_left
      ·simp only [Act.put, List.setIfInBounds_toArray, List.set_cons_zero, List.set_cons_succ, i64_w, i32_w]
       rfl
      refine done_ (by kernel_rfl) ?_
      obtain ⟨Ao14, co14, eo14⟩ := Kd.R_slice HO_8.out
      subst eo14
      try go_wp2
      go_loopg [10] k1 (fun kq v10 w' => ∃ (x10_2 : Int), v10 = .int .i64 x10_2 ∧ Aside0 (tithebarnref17_below.l1 kq t220 x8_1 x9_1 x10_2 a2_0 a2_1 a2_2 a2_3 a2_4 a2_5 a2_6 a2_7 = some r) ∧ Aside0 (kq ≤ k1) ∧ Aside0 (Kd.R k38 38 w' w.heap.size (fun k_ => some k_ ≠ ((.slice Ao14 x8_1.length co14) : Value).ownBlock ∧ k_ ≠ gb219) (.slice (some ad223) t220.length co11) t220) ∧ Aside0 (Kd.R k38 38 w' w.heap.size (fun k_ => some k_ ≠ ((.slice (some ad223) t220.length co11) : Value).ownBlock ∧ k_ ≠ gb219) (.slice Ao14 x8_1.length co14) x8_1) ∧ Aside0 (w'.heap[gb219]? = some (.cells #[.int .i64 a2_0, .int .i64 a2_1, .bool a2_2, .int .i64 a2_3, .string a2_4, .bool a2_5, .int .i64 a2_6, .string a2_7] 38 (0, 0))) ∧ Aside0 (Below w.heap.size w w'))
      case atStart => exact ⟨((x8_1.length : Int)), (by first | rfl | (simp; done) | (simp [*]; done)), H', ⟨Nat.le_refl _⟩, ⟨by (with_reducible repeat (first | apply Kd.R_alloc | apply Kd.R_drewN | apply Kd.R_drew)); exact HO_7.out⟩, ⟨by (with_reducible repeat (first | apply Kd.R_alloc | apply Kd.R_drewN | apply Kd.R_drew)); exact HO_8.out⟩, ⟨by (with_reducible repeat (first | refine blk_drewN ?_ _ | refine blk_drew ?_ | refine blk_alloc ?_ _)); exact BK219.out⟩, ⟨by repeat (first | (with_reducible first | exact HB.out | apply below_alloc | apply pw_below_drewN | apply below_drew1 | refine below_set ?_ GE219.out) | exact HB.out)⟩⟩
      case round =>
       clear H'
       try clear c1
       try clear c2
       try clear p2
       try clear q2
       try clear hx2
       try clear c3
       try clear p6
       try clear c7
       try clear c7b0
       try clear c8
       try clear c8b0
       try clear c10
       try clear hx223_0 hx223_1 hx223_2 hx223_3 hx223_4 hx223_5 hx223_6 hx223_7
       try clear p2
       try clear p223
       try clear q223
       obtain ⟨x10_2, rfl, HA, HK2, HO_7, HO_8, BK219, HB⟩ := hrel
       cases gk with
       | zero => exact absurd HA.out (by simp [tithebarnref17_below.l1])
       | succ k2 =>
        have H := HA.out
        clear HA
        simp only [tithebarnref17_below.l1] at H
        have HC15 := Aside0.mk H
        clear H
        go_upto_region 8 with (fail)
        go_cut [44] (fun v44 wc => ∃ (kq : Nat) (x44_14 : Bool), v44 = .bool x44_14 ∧ Aside0 (tithebarnref17_below.j2 kq t220 x8_1 x9_1 x10_2 x44_14 a2_0 a2_1 a2_2 a2_3 a2_4 a2_5 a2_6 a2_7 = some r) ∧ Aside0 (kq ≤ k2) ∧ Aside0 (Kd.R k38 38 wc w.heap.size (fun k_ => some k_ ≠ ((.slice Ao14 x8_1.length co14) : Value).ownBlock ∧ k_ ≠ gb219) (.slice (some ad223) t220.length co11) t220) ∧ Aside0 (Kd.R k38 38 wc w.heap.size (fun k_ => some k_ ≠ ((.slice (some ad223) t220.length co11) : Value).ownBlock ∧ k_ ≠ gb219) (.slice Ao14 x8_1.length co14) x8_1) ∧ Aside0 (wc.heap[gb219]? = some (.cells #[.int .i64 a2_0, .int .i64 a2_1, .bool a2_2, .int .i64 a2_3, .string a2_4, .bool a2_5, .int .i64 a2_6, .string a2_7] 38 (0, 0))) ∧ Aside0 (Below w.heap.size w wc))
        case first =>
         have H := HC15.out
         clear HC15
         by_cases c16 : x10_2 > 0
         ·rw [if_pos c16] at H
          have c16b0 : decide (0 < x10_2) = true := decide_eq_true c16
          clear c16
          (first | rw [c16b0] | (simp only [i64_w, i32_w]; rw [c16b0]) | skip)
          by_cases c17 : 0 ≤ x9_1
          ·rw [if_pos c17] at H
           have c17b0 : decide (0 ≤ x9_1) = true := decide_eq_true c17
           clear c17
           by_cases c18 : x9_1 < (t220.length : Int)
           ·rw [if_pos c18] at H
            have c18b0 : decide (x9_1 < (t220.length : Int)) = true := decide_eq_true c18
            clear c18
            obtain ⟨ji19, hji19⟩ : ∃ j_ : Int, (wrap64 (x10_2 - 1)) = j_ := ⟨_, rfl⟩
            replace H : (if 0 ≤ (ji19) then (if (ji19) < (x8_1.length : Int) then ((tithebarnref02_Ahead_c.f ((rd_T38 t220 x9_1).f2.f0) ((rd_T38 t220 x9_1).f2.f1) ((rd_T38 t220 x9_1).f2.f2) ((rd_T38 x8_1 (ji19)).f2.f0) ((rd_T38 x8_1 (ji19)).f2.f1) ((rd_T38 x8_1 (ji19)).f2.f2)).bind fun t227 => (tithebarnref17_below.j2 k2 t220 x8_1 x9_1 x10_2 t227 a2_0 a2_1 a2_2 a2_3 a2_4 a2_5 a2_6 a2_7)) else (none)) else (none)) = some r := by first | (rw [hji19] at H; exact H) | (simp only [hji19] at H ⊢; exact H)
            have hji19w : (IntKind.i64.wrap (x10_2 - 1)) = ji19 := (i64_w _).trans hji19
            by_cases c20 : 0 ≤ (ji19)
            ·rw [if_pos c20] at H
             have c20b0 : decide (0 ≤ (ji19)) = true := decide_eq_true c20
             clear c20
             by_cases c21 : (ji19) < (x8_1.length : Int)
             ·rw [if_pos c21] at H
              have c21b0 : decide ((ji19) < (x8_1.length : Int)) = true := decide_eq_true c21
              clear c21
              replace H := Option.bind_eq_some_iff.mp H
              obtain ⟨t227, A220, H⟩ := H
              replace H : (tithebarnref17_below.j2 k2 t220 x8_1 x9_1 x10_2 t227 a2_0 a2_1 a2_2 a2_3 a2_4 a2_5 a2_6 a2_7) = some r := H
              have A22 := Aside0.mk A220
              clear A220
              have H' := Aside0.mk H
              clear H
              try go_wp2
              have n0_ := Aside0.mk (Kd.R_drew HO_7.out)
              have n1_ := Aside0.mk (Kd.R_drew HO_8.out)
              have n2_ := Aside0.mk (blk_drew BK219.out)
              have n3_ := Aside0.mk (below_drew1 HB.out)
              clear HO_7
              clear HO_8
              clear BK219
              clear HB
              have HO_7 := n0_
              have HO_8 := n1_
              have BK219 := n2_
              have HB := n3_
              clear n0_ n1_ n2_ n3_
              have p225 : 0 ≤ (x9_1 : Int) := of_decide_eq_true (by with_reducible assumption)
              have q225 : x9_1 < (t220.length : Int) := of_decide_eq_true (by with_reducible assumption)
              obtain ⟨ad225, e225, hx225_0, hx225_1, hx225_2, hx225_3, hx225_4, hx225_5, hx225_6, hx225_7⟩ := at_T38 (Kd.R_reads' HO_7.out).2.2 x9_1 p225 q225
              obtain rfl : ad223 = ad225 := (by injection e225)
              replace p225 := eq_true p225
              replace q225 := eq_true q225
              have p226 : 0 ≤ ((ji19) : Int) := of_decide_eq_true (by with_reducible assumption)
              have q226 : (ji19) < (x8_1.length : Int) := of_decide_eq_true (by with_reducible assumption)
              obtain ⟨ad226, e226, hx226_0, hx226_1, hx226_2, hx226_3, hx226_4, hx226_5, hx226_6, hx226_7⟩ := at_T38 (Kd.R_reads' HO_8.out).2.2 (ji19) p226 q226
              cases e226
              replace p226 := eq_true p226
              replace q226 := eq_true q226
              refine start_ (n := 16) (S := fun w' => w'.cell? (ad223.add ((x9_1).toNat * 8)) = some (.int .i64 ((rd_T38 t220 x9_1).f0)) ∧ w'.cell? ⟨(ad223.add ((x9_1).toNat * 8)).block, (ad223.add ((x9_1).toNat * 8)).off + 1, none⟩ = some (.int .i64 ((rd_T38 t220 x9_1).f1)) ∧ w'.cell? ⟨(ad223.add ((x9_1).toNat * 8)).block, (ad223.add ((x9_1).toNat * 8)).off + 2, none⟩ = some (.bool ((rd_T38 t220 x9_1).f2.f0)) ∧ w'.cell? ⟨(ad223.add ((x9_1).toNat * 8)).block, (ad223.add ((x9_1).toNat * 8)).off + 3, none⟩ = some (.int .i64 ((rd_T38 t220 x9_1).f2.f1)) ∧ w'.cell? ⟨(ad223.add ((x9_1).toNat * 8)).block, (ad223.add ((x9_1).toNat * 8)).off + 4, none⟩ = some (.string ((rd_T38 t220 x9_1).f2.f2)) ∧ w'.cell? ⟨(ad223.add ((x9_1).toNat * 8)).block, (ad223.add ((x9_1).toNat * 8)).off + 5, none⟩ = some (.bool ((rd_T38 t220 x9_1).f3.f0)) ∧ w'.cell? ⟨(ad223.add ((x9_1).toNat * 8)).block, (ad223.add ((x9_1).toNat * 8)).off + 6, none⟩ = some (.int .i64 ((rd_T38 t220 x9_1).f3.f1)) ∧ w'.cell? ⟨(ad223.add ((x9_1).toNat * 8)).block, (ad223.add ((x9_1).toNat * 8)).off + 7, none⟩ = some (.string ((rd_T38 t220 x9_1).f3.f2)) ∧ w'.cell? (ad226.add (((ji19)).toNat * 8)) = some (.int .i64 ((rd_T38 x8_1 (ji19)).f0)) ∧ w'.cell? ⟨(ad226.add (((ji19)).toNat * 8)).block, (ad226.add (((ji19)).toNat * 8)).off + 1, none⟩ = some (.int .i64 ((rd_T38 x8_1 (ji19)).f1)) ∧ w'.cell? ⟨(ad226.add (((ji19)).toNat * 8)).block, (ad226.add (((ji19)).toNat * 8)).off + 2, none⟩ = some (.bool ((rd_T38 x8_1 (ji19)).f2.f0)) ∧ w'.cell? ⟨(ad226.add (((ji19)).toNat * 8)).block, (ad226.add (((ji19)).toNat * 8)).off + 3, none⟩ = some (.int .i64 ((rd_T38 x8_1 (ji19)).f2.f1)) ∧ w'.cell? ⟨(ad226.add (((ji19)).toNat * 8)).block, (ad226.add (((ji19)).toNat * 8)).off + 4, none⟩ = some (.string ((rd_T38 x8_1 (ji19)).f2.f2)) ∧ w'.cell? ⟨(ad226.add (((ji19)).toNat * 8)).block, (ad226.add (((ji19)).toNat * 8)).off + 5, none⟩ = some (.bool ((rd_T38 x8_1 (ji19)).f3.f0)) ∧ w'.cell? ⟨(ad226.add (((ji19)).toNat * 8)).block, (ad226.add (((ji19)).toNat * 8)).off + 6, none⟩ = some (.int .i64 ((rd_T38 x8_1 (ji19)).f3.f1)) ∧ w'.cell? ⟨(ad226.add (((ji19)).toNat * 8)).block, (ad226.add (((ji19)).toNat * 8)).off + 7, none⟩ = some (.string ((rd_T38 x8_1 (ji19)).f3.f2))) (ds := []) #[false, false, false, false, false, false, false, false, false, false, false, false, false, false, false, false] (by kernel_rfl) rfl rfl ⟨hx225_0, hx225_1, hx225_2, hx225_3, hx225_4, hx225_5, hx225_6, hx225_7, hx226_0, hx226_1, hx226_2, hx226_3, hx226_4, hx226_5, hx226_6, hx226_7⟩ (fun hHeld => ?_); refine with_tabW tithebarnref17_below.tab8 tithebarnref17_below.bits8 (fun HT_ HW_ => ?_)
              generalize wr.drew = w23 at HO_7 HO_8 BK219 HB hx225_0 hx225_1 hx225_2 hx225_3 hx225_4 hx225_5 hx225_6 hx225_7 hx226_0 hx226_1 hx226_2 hx226_3 hx226_4 hx226_5 hx226_6 hx226_7 hHeld ⊢
              refine pure_ (i := 0) (N := some 29) (v := ?_) (a' := ?_) #[true, false, false, false, false, false, false, false, false, false, false, false, false, false, false, false] rfl rfl (any_of HT_.out (by kernel_rfl)) (fun _ _ _ h => h) (Or.inl ⟨by rfl, ?_⟩) ?_ ?_
              rotate_left
              ·intro w'
               go_simp
               with_reducible rfl
              rotate_left
              ·simp only [Act.put, List.setIfInBounds_toArray, List.set_cons_zero, List.set_cons_succ, i64_w, i32_w]
               rfl
              refine pure_ (i := 1) (N := some 30) (v := ?_) (a' := ?_) #[true, true, false, false, false, false, false, false, false, false, false, false, false, false, false, false] rfl rfl (any_of HT_.out (by kernel_rfl)) (fun _ _ _ h => h) (Or.inl ⟨by rfl, ?_⟩) ?_ ?_
              rotate_left
              ·intro w'
               go_simp
               with_reducible rfl
              rotate_left
              ·simp only [Act.put, List.setIfInBounds_toArray, List.set_cons_zero, List.set_cons_succ, i64_w, i32_w]
               rfl
              refine pure_ (i := 2) (N := some 31) (v := ?_) (a' := ?_) #[true, true, true, false, false, false, false, false, false, false, false, false, false, false, false, false] rfl rfl (any_of HT_.out (by kernel_rfl)) (fun _ _ _ h => h) (Or.inl ⟨by rfl, ?_⟩) ?_ ?_
              rotate_left
              ·intro w'
               go_simp
               with_reducible rfl
              rotate_left
              ·simp only [Act.put, List.setIfInBounds_toArray, List.set_cons_zero, List.set_cons_succ, i64_w, i32_w]
               rfl
              refine pure_ (i := 3) (N := some 32) (v := ?_) (a' := ?_) #[true, true, true, true, false, false, false, false, false, false, false, false, false, false, false, false] rfl rfl (any_of HT_.out (by kernel_rfl)) (fun _ _ _ h => h) (Or.inl ⟨by rfl, ?_⟩) ?_ ?_
              rotate_left
              ·intro w'
               go_simp
               with_reducible rfl
              rotate_left
              ·simp only [Act.put, List.setIfInBounds_toArray, List.set_cons_zero, List.set_cons_succ, i64_w, i32_w]
               rfl
              refine pure_ (i := 4) (N := some 33) (v := ?_) (a' := ?_) #[true, true, true, true, true, false, false, false, false, false, false, false, false, false, false, false] rfl rfl (any_of HT_.out (by kernel_rfl)) (fun _ _ _ h => h) (Or.inl ⟨by rfl, ?_⟩) ?_ ?_
              rotate_left
              ·intro w'
               go_simp
               with_reducible rfl
              rotate_left
              ·simp only [Act.put, List.setIfInBounds_toArray, List.set_cons_zero, List.set_cons_succ, i64_w, i32_w]
               rfl
              refine pure_ (i := 5) (N := some 34) (v := ?_) (a' := ?_) #[true, true, true, true, true, true, false, false, false, false, false, false, false, false, false, false] rfl rfl (any_of HT_.out (by kernel_rfl)) (fun _ _ _ h => h) (Or.inl ⟨by rfl, ?_⟩) ?_ ?_
              rotate_left
              ·intro w'
               go_simp
               with_reducible rfl
              rotate_left
              ·simp only [Act.put, List.setIfInBounds_toArray, List.set_cons_zero, List.set_cons_succ, i64_w, i32_w]
               rfl
              refine pure_ (i := 6) (N := some 35) (v := ?_) (a' := ?_) #[true, true, true, true, true, true, true, false, false, false, false, false, false, false, false, false] rfl rfl (any_of HT_.out (by kernel_rfl)) (fun _ _ _ h => h) (Or.inl ⟨by rfl, ?_⟩) ?_ ?_
              rotate_left
              ·intro w'
               go_simp
               with_reducible rfl
              rotate_left
              ·simp only [Act.put, List.setIfInBounds_toArray, List.set_cons_zero, List.set_cons_succ, i64_w, i32_w]
               rfl
              refine pure_ (i := 8) (N := some 37) (v := ?_) (a' := ?_) #[true, true, true, true, true, true, true, false, true, false, false, false, false, false, false, false] rfl rfl (any_of HT_.out (by kernel_rfl)) (fun _ _ _ h => h) (Or.inl ⟨by rfl, ?_⟩) ?_ ?_
              rotate_left
              ·intro w'
               go_simp
               with_reducible rfl
              rotate_left
              ·simp only [Act.put, List.setIfInBounds_toArray, List.set_cons_zero, List.set_cons_succ, i64_w, i32_w]
               rfl
              refine pure_ (i := 9) (N := some 38) (v := ?_) (a' := ?_) #[true, true, true, true, true, true, true, false, true, true, false, false, false, false, false, false] rfl rfl (any_of HT_.out (by kernel_rfl)) (fun _ _ _ h => h) (Or.inl ⟨by rfl, ?_⟩) ?_ ?_
              rotate_left
              ·intro w'
               go_simp
               with_reducible rfl
              rotate_left
              ·simp only [Act.put, List.setIfInBounds_toArray, List.set_cons_zero, List.set_cons_succ, i64_w, i32_w]
               rfl
              refine pure_ (i := 10) (N := some 39) (v := ?_) (a' := ?_) #[true, true, true, true, true, true, true, false, true, true, true, false, false, false, false, false] rfl rfl (any_of HT_.out (by kernel_rfl)) (fun _ _ _ h => h) (Or.inl ⟨by rfl, ?_⟩) ?_ ?_
              rotate_left
              ·intro w'
               go_simp
               with_reducible rfl
              rotate_left
              ·simp only [Act.put, List.setIfInBounds_toArray, List.set_cons_zero, List.set_cons_succ, i64_w, i32_w]
               rfl
              refine pure_ (i := 11) (N := some 40) (v := ?_) (a' := ?_) #[true, true, true, true, true, true, true, false, true, true, true, true, false, false, false, false] rfl rfl (any_of HT_.out (by kernel_rfl)) (fun _ _ _ h => h) (Or.inl ⟨by rfl, ?_⟩) ?_ ?_
              rotate_left
              ·intro w'
               go_simp
               with_reducible rfl
              rotate_left
              ·simp only [Act.put, List.setIfInBounds_toArray, List.set_cons_zero, List.set_cons_succ, i64_w, i32_w]
               rfl
              refine pure_ (i := 12) (N := some 41) (v := ?_) (a' := ?_) #[true, true, true, true, true, true, true, false, true, true, true, true, true, false, false, false] rfl rfl (any_of HT_.out (by kernel_rfl)) (fun _ _ _ h => h) (Or.inl ⟨by rfl, ?_⟩) ?_ ?_
              rotate_left
              ·intro w'
               go_simp
               with_reducible rfl
              rotate_left
              ·simp only [Act.put, List.setIfInBounds_toArray, List.set_cons_zero, List.set_cons_succ, i64_w, i32_w]
               rfl
              refine take_ (i := 7) (N := some 36) (v := ?_) (a' := ?_) #[true, true, true, true, true, true, true, true, true, true, true, true, true, false, false, false] rfl rfl (take_ofW HT_.out HW_.out (by kernel_rfl)) (fun _ _ _ h => h) (Or.inl ⟨by rfl, ?_⟩) hHeld ?_ ?_
              rotate_left
              ·rintro w' ⟨s0, s1, s2, s3, s4, s5, s6, s7, s8, s9, s10, s11, s12, s13, s14, s15⟩
               go_simp
               with_reducible rfl
              rotate_left
              ·simp only [Act.put, List.setIfInBounds_toArray, List.set_cons_zero, List.set_cons_succ, i64_w, i32_w]
               rfl
              refine take_ (i := 13) (N := some 42) (v := ?_) (a' := ?_) #[true, true, true, true, true, true, true, true, true, true, true, true, true, true, false, false] rfl rfl (take_ofW HT_.out HW_.out (by kernel_rfl)) (fun _ _ _ h => h) (Or.inl ⟨by rfl, ?_⟩) hHeld ?_ ?_
              rotate_left
              ·rintro w' ⟨s0, s1, s2, s3, s4, s5, s6, s7, s8, s9, s10, s11, s12, s13, s14, s15⟩
               go_simp
               with_reducible rfl
              rotate_left
              ·simp only [Act.put, List.setIfInBounds_toArray, List.set_cons_zero, List.set_cons_succ, i64_w, i32_w]
               rfl
              refine one_ (i := 14) (N := some 43) #[true, true, true, true, true, true, true, true, true, true, true, true, true, true, true, false] rfl rfl (one_of HT_.out (by kernel_rfl)) (by decide) (fun K hK => ?_)
              refine goes_ Try.func42 (by kernel_rfl) rfl #[.agg #[.bool ((rd_T38 t220 x9_1).f2.f0), .int .i64 ((rd_T38 t220 x9_1).f2.f1), .string ((rd_T38 t220 x9_1).f2.f2)], .agg #[.bool ((rd_T38 x8_1 (ji19)).f2.f0), .int .i64 ((rd_T38 x8_1 (ji19)).f2.f1), .string ((rd_T38 x8_1 (ji19)).f2.f2)]] (by rfl) rfl rfl (by (try simp only [List.map_toArray, List.map_cons, List.map_nil]); first | done | (simp only [hji19]; rfl) | rfl | (simp only [List.length_drop, List.length_take]; rfl)) ?_
              with_reducible refine (tithebarnref02_Ahead_c.calls ((rd_T38 t220 x9_1).f2.f0) ((rd_T38 t220 x9_1).f2.f1) ((rd_T38 t220 x9_1).f2.f2) ((rd_T38 x8_1 (ji19)).f2.f0) ((rd_T38 x8_1 (ji19)).f2.f1) ((rd_T38 x8_1 (ji19)).f2.f2) t227 _ A22.out).mono ?_
              rintro e w24 ⟨rfl, hb⟩
              have HS0_ := (hb.cell (World.block_lt_of_cell? _ _ (hHeld.1))).trans (hHeld.1)
              have HS1_ := (hb.cell (World.block_lt_of_cell? _ _ (hHeld.2.1))).trans (hHeld.2.1)
              have HS2_ := (hb.cell (World.block_lt_of_cell? _ _ (hHeld.2.2.1))).trans (hHeld.2.2.1)
              have HS3_ := (hb.cell (World.block_lt_of_cell? _ _ (hHeld.2.2.2.1))).trans (hHeld.2.2.2.1)
              have HS4_ := (hb.cell (World.block_lt_of_cell? _ _ (hHeld.2.2.2.2.1))).trans (hHeld.2.2.2.2.1)
              have HS5_ := (hb.cell (World.block_lt_of_cell? _ _ (hHeld.2.2.2.2.2.1))).trans (hHeld.2.2.2.2.2.1)
              have HS6_ := (hb.cell (World.block_lt_of_cell? _ _ (hHeld.2.2.2.2.2.2.1))).trans (hHeld.2.2.2.2.2.2.1)
              have HS7_ := (hb.cell (World.block_lt_of_cell? _ _ (hHeld.2.2.2.2.2.2.2.1))).trans (hHeld.2.2.2.2.2.2.2.1)
              have HS8_ := (hb.cell (World.block_lt_of_cell? _ _ (hHeld.2.2.2.2.2.2.2.2.1))).trans (hHeld.2.2.2.2.2.2.2.2.1)
              have HS9_ := (hb.cell (World.block_lt_of_cell? _ _ (hHeld.2.2.2.2.2.2.2.2.2.1))).trans (hHeld.2.2.2.2.2.2.2.2.2.1)
              have HS10_ := (hb.cell (World.block_lt_of_cell? _ _ (hHeld.2.2.2.2.2.2.2.2.2.2.1))).trans (hHeld.2.2.2.2.2.2.2.2.2.2.1)
              have HS11_ := (hb.cell (World.block_lt_of_cell? _ _ (hHeld.2.2.2.2.2.2.2.2.2.2.2.1))).trans (hHeld.2.2.2.2.2.2.2.2.2.2.2.1)
              have HS12_ := (hb.cell (World.block_lt_of_cell? _ _ (hHeld.2.2.2.2.2.2.2.2.2.2.2.2.1))).trans (hHeld.2.2.2.2.2.2.2.2.2.2.2.2.1)
              have HS13_ := (hb.cell (World.block_lt_of_cell? _ _ (hHeld.2.2.2.2.2.2.2.2.2.2.2.2.2.1))).trans (hHeld.2.2.2.2.2.2.2.2.2.2.2.2.2.1)
              have HS14_ := (hb.cell (World.block_lt_of_cell? _ _ (hHeld.2.2.2.2.2.2.2.2.2.2.2.2.2.2.1))).trans (hHeld.2.2.2.2.2.2.2.2.2.2.2.2.2.2.1)
              have HS15_ := (hb.cell (World.block_lt_of_cell? _ _ (hHeld.2.2.2.2.2.2.2.2.2.2.2.2.2.2.2))).trans (hHeld.2.2.2.2.2.2.2.2.2.2.2.2.2.2.2)
              refine ⟨_, rfl, ?_⟩
              have n0_ := Aside0.mk (Kd.R_below (by (with_reducible repeat (first | apply Kd.R_alloc | apply Kd.R_drewN | apply Kd.R_drew)); exact HO_7.out) hb)
              have n1_ := Aside0.mk (Kd.R_below (by (with_reducible repeat (first | apply Kd.R_alloc | apply Kd.R_drewN | apply Kd.R_drew)); exact HO_8.out) hb)
              have n2_ := Aside0.mk (blk_below (g := gb219) (o := .cells #[.int .i64 a2_0, .int .i64 a2_1, .bool a2_2, .int .i64 a2_3, .string a2_4, .bool a2_5, .int .i64 a2_6, .string a2_7] 38 (0, 0)) (by (with_reducible repeat (first | refine blk_drewN ?_ _ | refine blk_drew ?_ | refine blk_alloc ?_ _)); exact BK219.out) hb)
              have n3_ := Aside0.mk (below_step (by with_reducible repeat first | exact HB.out | apply below_alloc | apply pw_below_drewN | apply below_drew1 | refine below_set ?_ GE219.out) hb)
              clear HO_7
              clear HO_8
              clear BK219
              clear HB
              have HO_7 := n0_
              have HO_8 := n1_
              have BK219 := n2_
              have HB := n3_
              clear n0_ n1_ n2_ n3_
              (try clear hb)
              (try clear hb2)
              (try clear hk)
              (try clear hi)
              refine hK.out _ _ ⟨HS0_, HS1_, HS2_, HS3_, HS4_, HS5_, HS6_, HS7_, HS8_, HS9_, HS10_, HS11_, HS12_, HS13_, HS14_, HS15_⟩ (fun hHeld => ?_)
              clear hK K
              refine norm_ (a' := ?_) ?_ ?_
              rotate_left
              ·show Act.put _ (some 43) _ = _
               simp only [Act.put, List.setIfInBounds_toArray, List.set_cons_zero, List.set_cons_succ, i64_w, i32_w]
               rfl
              refine pure_ (i := 15) (N := some 44) (v := ?_) (a' := ?_) #[true, true, true, true, true, true, true, true, true, true, true, true, true, true, true, true] rfl rfl (any_of HT_.out (by kernel_rfl)) (fun _ _ _ h => h) (Or.inl ⟨by rfl, ?_⟩) ?_ ?_
              rotate_left
              ·intro w'
               go_simp
               with_reducible rfl
              rotate_left
              ·simp only [Act.put, List.setIfInBounds_toArray, List.set_cons_zero, List.set_cons_succ, i64_w, i32_w]
               rfl
              refine done_ (done_of HT_.out (by kernel_rfl)) ?_
              try go_wp2
              go_meet
              case rel => exact ⟨_, (t227), (by first | rfl | (simp; done) | (simp [*]; done)), H', ⟨by have := HK1.out; have := HK2.out; first | omega | exact Nat.le_refl _⟩, ⟨by (with_reducible repeat (first | apply Kd.R_alloc | apply Kd.R_drewN | apply Kd.R_drew)); exact HO_7.out⟩, ⟨by (with_reducible repeat (first | apply Kd.R_alloc | apply Kd.R_drewN | apply Kd.R_drew)); exact HO_8.out⟩, ⟨by (with_reducible repeat (first | refine blk_drewN ?_ _ | refine blk_drew ?_ | refine blk_alloc ?_ _)); exact BK219.out⟩, ⟨by repeat (first | (with_reducible first | exact HB.out | apply below_alloc | apply pw_below_drewN | apply below_drew1 | refine below_set ?_ GE219.out) | exact HB.out)⟩⟩
             ·rw [if_neg c21] at H
              exact absurd H (by simp)
            ·rw [if_neg c20] at H
             exact absurd H (by simp)
           ·rw [if_neg c18] at H
            exact absurd H (by simp)
          ·rw [if_neg c17] at H
           exact absurd H (by simp)
         ·rw [if_neg c16] at H
          have c16b0 : decide (0 < x10_2) = false := decide_eq_false c16
          clear c16
          (first | rw [c16b0] | (simp only [i64_w, i32_w]; rw [c16b0]) | skip)
          have H' := Aside0.mk H
          clear H
          try go_wp2
          have n0_ := Aside0.mk (Kd.R_drew HO_7.out)
          have n1_ := Aside0.mk (Kd.R_drew HO_8.out)
          have n2_ := Aside0.mk (blk_drew BK219.out)
          have n3_ := Aside0.mk (below_drew1 HB.out)
          clear HO_7
          clear HO_8
          clear BK219
          clear HB
          have HO_7 := n0_
          have HO_8 := n1_
          have BK219 := n2_
          have HB := n3_
          clear n0_ n1_ n2_ n3_
          refine start_ (n := 16) (S := fun w' => True) (ds := []) #[false, false, false, false, false, false, false, false, false, false, false, false, false, false, false, false] (by kernel_rfl) rfl rfl trivial (fun hHeld => ?_); refine with_tabW tithebarnref17_below.tab8 tithebarnref17_below.bits8 (fun HT_ HW_ => ?_)
          generalize wr.drew = w25 at HO_7 HO_8 BK219 HB hHeld ⊢
          refine pure_ (i := 0) (N := some 29) (v := ?_) (a' := ?_) #[true, false, false, false, false, false, false, false, false, false, false, false, false, false, false, false] rfl rfl (any_of HT_.out (by kernel_rfl)) (fun _ _ _ h => h) (Or.inl ⟨by rfl, ?_⟩) ?_ ?_
          rotate_left
          ·intro w'
           go_simp
           with_reducible rfl
          rotate_left
          ·simp only [Act.put, List.setIfInBounds_toArray, List.set_cons_zero, List.set_cons_succ, i64_w, i32_w]
           rfl
          refine pure_ (i := 1) (N := some 30) (v := ?_) (a' := ?_) #[true, true, false, false, false, false, false, false, false, false, false, false, false, false, false, false] rfl rfl (any_of HT_.out (by kernel_rfl)) (fun _ _ _ h => h) (Or.inl ⟨by rfl, ?_⟩) ?_ ?_
          rotate_left
          ·intro w'
           go_simp
           with_reducible rfl
          rotate_left
          ·simp only [Act.put, List.setIfInBounds_toArray, List.set_cons_zero, List.set_cons_succ, i64_w, i32_w]
           rfl
          refine pure_ (i := 2) (N := some 31) (v := ?_) (a' := ?_) #[true, true, true, false, false, false, false, false, false, false, false, false, false, false, false, false] rfl rfl (any_of HT_.out (by kernel_rfl)) (fun _ _ _ h => h) (Or.inl ⟨by rfl, ?_⟩) ?_ ?_
          rotate_left
          ·intro w'
           go_simp
           with_reducible rfl
          rotate_left
          ·simp only [Act.put, List.setIfInBounds_toArray, List.set_cons_zero, List.set_cons_succ, i64_w, i32_w]
           rfl
          refine pure_ (i := 3) (N := some 32) (v := undef) (a' := ?_) #[true, true, true, true, false, false, false, false, false, false, false, false, false, false, false, false] rfl rfl (any_of HT_.out (by kernel_rfl)) (fun _ _ _ h => h) (Or.inr ⟨by rfl, rfl⟩) ?_ ?_
          rotate_left
          ·simp only [Act.put, List.setIfInBounds_toArray, List.set_cons_zero, List.set_cons_succ, i64_w, i32_w]
           rfl
          refine pure_ (i := 4) (N := some 33) (v := undef) (a' := ?_) #[true, true, true, true, true, false, false, false, false, false, false, false, false, false, false, false] rfl rfl (any_of HT_.out (by kernel_rfl)) (fun _ _ _ h => h) (Or.inr ⟨by rfl, rfl⟩) ?_ ?_
          rotate_left
          ·simp only [Act.put, List.setIfInBounds_toArray, List.set_cons_zero, List.set_cons_succ, i64_w, i32_w]
           rfl
          refine pure_ (i := 5) (N := some 34) (v := undef) (a' := ?_) #[true, true, true, true, true, true, false, false, false, false, false, false, false, false, false, false] rfl rfl (any_of HT_.out (by kernel_rfl)) (fun _ _ _ h => h) (Or.inr ⟨by rfl, rfl⟩) ?_ ?_
          rotate_left
          ·simp only [Act.put, List.setIfInBounds_toArray, List.set_cons_zero, List.set_cons_succ, i64_w, i32_w]
           rfl
          refine pure_ (i := 6) (N := some 35) (v := undef) (a' := ?_) #[true, true, true, true, true, true, true, false, false, false, false, false, false, false, false, false] rfl rfl (any_of HT_.out (by kernel_rfl)) (fun _ _ _ h => h) (Or.inr ⟨by rfl, rfl⟩) ?_ ?_
          rotate_left
          ·simp only [Act.put, List.setIfInBounds_toArray, List.set_cons_zero, List.set_cons_succ, i64_w, i32_w]
           rfl
          refine pure_ (i := 7) (N := some 36) (v := undef) (a' := ?_) #[true, true, true, true, true, true, true, true, false, false, false, false, false, false, false, false] rfl rfl (any_of HT_.out (by kernel_rfl)) (fun _ _ _ h => h) (Or.inr ⟨by rfl, rfl⟩) ?_ ?_
          rotate_left
          ·simp only [Act.put, List.setIfInBounds_toArray, List.set_cons_zero, List.set_cons_succ, i64_w, i32_w]
           rfl
          refine pure_ (i := 8) (N := some 37) (v := undef) (a' := ?_) #[true, true, true, true, true, true, true, true, true, false, false, false, false, false, false, false] rfl rfl (any_of HT_.out (by kernel_rfl)) (fun _ _ _ h => h) (Or.inr ⟨by rfl, rfl⟩) ?_ ?_
          rotate_left
          ·simp only [Act.put, List.setIfInBounds_toArray, List.set_cons_zero, List.set_cons_succ, i64_w, i32_w]
           rfl
          refine pure_ (i := 9) (N := some 38) (v := undef) (a' := ?_) #[true, true, true, true, true, true, true, true, true, true, false, false, false, false, false, false] rfl rfl (any_of HT_.out (by kernel_rfl)) (fun _ _ _ h => h) (Or.inr ⟨by rfl, rfl⟩) ?_ ?_
          rotate_left
          ·simp only [Act.put, List.setIfInBounds_toArray, List.set_cons_zero, List.set_cons_succ, i64_w, i32_w]
           rfl
          refine pure_ (i := 10) (N := some 39) (v := undef) (a' := ?_) #[true, true, true, true, true, true, true, true, true, true, true, false, false, false, false, false] rfl rfl (any_of HT_.out (by kernel_rfl)) (fun _ _ _ h => h) (Or.inr ⟨by rfl, rfl⟩) ?_ ?_
          rotate_left
          ·simp only [Act.put, List.setIfInBounds_toArray, List.set_cons_zero, List.set_cons_succ, i64_w, i32_w]
           rfl
          refine pure_ (i := 11) (N := some 40) (v := undef) (a' := ?_) #[true, true, true, true, true, true, true, true, true, true, true, true, false, false, false, false] rfl rfl (any_of HT_.out (by kernel_rfl)) (fun _ _ _ h => h) (Or.inr ⟨by rfl, rfl⟩) ?_ ?_
          rotate_left
          ·simp only [Act.put, List.setIfInBounds_toArray, List.set_cons_zero, List.set_cons_succ, i64_w, i32_w]
           rfl
          refine pure_ (i := 12) (N := some 41) (v := undef) (a' := ?_) #[true, true, true, true, true, true, true, true, true, true, true, true, true, false, false, false] rfl rfl (any_of HT_.out (by kernel_rfl)) (fun _ _ _ h => h) (Or.inr ⟨by rfl, rfl⟩) ?_ ?_
          rotate_left
          ·simp only [Act.put, List.setIfInBounds_toArray, List.set_cons_zero, List.set_cons_succ, i64_w, i32_w]
           rfl
          refine pure_ (i := 13) (N := some 42) (v := undef) (a' := ?_) #[true, true, true, true, true, true, true, true, true, true, true, true, true, true, false, false] rfl rfl (any_of HT_.out (by kernel_rfl)) (fun _ _ _ h => h) (Or.inr ⟨by rfl, rfl⟩) ?_ ?_
          rotate_left
          ·simp only [Act.put, List.setIfInBounds_toArray, List.set_cons_zero, List.set_cons_succ, i64_w, i32_w]
           rfl
          refine pure_ (i := 14) (N := some 43) (v := undef) (a' := ?_) #[true, true, true, true, true, true, true, true, true, true, true, true, true, true, true, false] rfl rfl (any_of HT_.out (by kernel_rfl)) (fun _ _ _ h => h) (Or.inr ⟨by rfl, rfl⟩) ?_ ?_
          rotate_left
          ·simp only [Act.put, List.setIfInBounds_toArray, List.set_cons_zero, List.set_cons_succ, i64_w, i32_w]
           rfl
          refine pure_ (i := 15) (N := some 44) (v := ?_) (a' := ?_) #[true, true, true, true, true, true, true, true, true, true, true, true, true, true, true, true] rfl rfl (any_of HT_.out (by kernel_rfl)) (fun _ _ _ h => h) (Or.inl ⟨by rfl, ?_⟩) ?_ ?_
          rotate_left
          ·intro w'
           go_simp
           with_reducible rfl
          rotate_left
          ·simp only [Act.put, List.setIfInBounds_toArray, List.set_cons_zero, List.set_cons_succ, i64_w, i32_w]
           rfl
          refine done_ (done_of HT_.out (by kernel_rfl)) ?_
          try go_wp2
          go_meet
          case rel => exact ⟨_, (false), (by first | rfl | (simp; done) | (simp [*]; done)), H', ⟨by have := HK1.out; have := HK2.out; first | omega | exact Nat.le_refl _⟩, ⟨by (with_reducible repeat (first | apply Kd.R_alloc | apply Kd.R_drewN | apply Kd.R_drew)); exact HO_7.out⟩, ⟨by (with_reducible repeat (first | apply Kd.R_alloc | apply Kd.R_drewN | apply Kd.R_drew)); exact HO_8.out⟩, ⟨by (with_reducible repeat (first | refine blk_drewN ?_ _ | refine blk_drew ?_ | refine blk_alloc ?_ _)); exact BK219.out⟩, ⟨by repeat (first | (with_reducible first | exact HB.out | apply below_alloc | apply pw_below_drewN | apply below_drew1 | refine below_set ?_ GE219.out) | exact HB.out)⟩⟩
        case rest =>
         clear HC15
         try clear c1
         try clear c2
         try clear p2
         try clear q2
         try clear hx2
         try clear c3
         try clear c4
         try clear p6
         try clear c7
         try clear c7b0
         try clear c8
         try clear c8b0
         try clear c10
         try clear c16
         try clear c16b0
         try clear c17
         try clear c17b0
         try clear c18
         try clear c18b0
         try clear c20
         try clear c20b0
         try clear c21
         try clear c21b0
         try clear p22
         try clear q22
         try clear hx22
         try clear c23
         try clear hx223_0 hx223_1 hx223_2 hx223_3 hx223_4 hx223_5 hx223_6 hx223_7
         try clear hx225_0 hx225_1 hx225_2 hx225_3 hx225_4 hx225_5 hx225_6 hx225_7
         try clear hx226_0 hx226_1 hx226_2 hx226_3 hx226_4 hx226_5 hx226_6 hx226_7
         try clear p2
         try clear p223
         try clear p225
         try clear p226
         try clear p6
         try clear q2
         try clear q223
         try clear q225
         try clear q226
         obtain ⟨kq, x44_14, rfl, HA, HJ14, HO_7, HO_8, BK219, HB⟩ := hcut
         cases kq with
         | zero => exact absurd HA.out (by simp [tithebarnref17_below.j2])
         | succ kj14 =>
          have H := HA.out
          clear HA
          simp only [tithebarnref17_below.j2] at H
          by_cases c26 : x44_14 = true
          ·subst c26
           have H1 : (tithebarnref17_below.l1 kj14 t220 x8_1 x9_1 (wrap64 (x10_2 - 1)) a2_0 a2_1 a2_2 a2_3 a2_4 a2_5 a2_6 a2_7) = some r := by rw [if_pos rfl] at H; exact H
           clear H
           have H := H1
           clear H1
           have H' := Aside0.mk H
           clear H
           go_wp2
           go_roundg kj14
           case measure => have := HK1.out; have := HK2.out; have := HJ14.out; omega
           case rel => exact ⟨(wrap64 (x10_2 - 1)), (by first | rfl | (simp; done) | (simp [*]; done)), H', ⟨by have := HK1.out; have := HK2.out; have := HJ14.out; omega⟩, ⟨by (with_reducible repeat (first | apply Kd.R_alloc | apply Kd.R_drewN | apply Kd.R_drew)); exact HO_7.out⟩, ⟨by (with_reducible repeat (first | apply Kd.R_alloc | apply Kd.R_drewN | apply Kd.R_drew)); exact HO_8.out⟩, ⟨by (with_reducible repeat (first | refine blk_drewN ?_ _ | refine blk_drew ?_ | refine blk_alloc ?_ _)); exact BK219.out⟩, ⟨by repeat (first | (with_reducible first | exact HB.out | apply below_alloc | apply pw_below_drewN | apply below_drew1 | refine below_set ?_ GE219.out) | exact HB.out)⟩⟩
          ·replace c26 := Bool.eq_false_iff.mpr c26
           subst c26
           have H1 : (if 0 ≤ x10_2 then (if x10_2 ≤ (x8_1.length : Int) then ((some (x8_1.take (x10_2 : Int).toNat : List (S38))).bind fun y228 => (if ([] : List (S38)).length + y228.length < 1759218604441 then ((some (([] : List (S38)) ++ y228 : List (S38))).bind fun y233 => (if 0 ≤ x9_1 then (if x9_1 < (t220.length : Int) then ((some (([(⟨(rd_T38 t220 x9_1).f0, (rd_T38 t220 x9_1).f1, (⟨(rd_T38 t220 x9_1).f2.f0, (rd_T38 t220 x9_1).f2.f1, (rd_T38 t220 x9_1).f2.f2⟩ : S36), (⟨(rd_T38 t220 x9_1).f3.f0, (rd_T38 t220 x9_1).f3.f1, (rd_T38 t220 x9_1).f3.f2⟩ : S36)⟩ : S38)] : List (S38)) : List (S38))).bind fun y237 => (if y233.length + y237.length < 1759218604441 then ((some (y233 ++ y237 : List (S38))).bind fun y240 => ((some (x8_1.drop (x10_2 : Int).toNat : List (S38))).bind fun y243 => (if y240.length + y243.length < 1759218604441 then (tithebarnref17_below.l0 kj14 t220 (y240 ++ y243) (wrap64 (x9_1 + 1)) a2_0 a2_1 a2_2 a2_3 a2_4 a2_5 a2_6 a2_7) else (none)))) else (none))) else (none)) else (none))) else (none))) else (none)) else (none)) = some r := by rw [if_neg (show ¬ (false = true) by decide)] at H; exact H
           clear H
           have H := H1
           clear H1
           by_cases c27 : 0 ≤ x10_2
           ·rw [if_pos c27] at H
            have c27b0 := eq_true c27
            have c27b1 : decide (0 ≤ x10_2) = true := decide_eq_true c27
            clear c27
            by_cases c28 : x10_2 ≤ (x8_1.length : Int)
            ·rw [if_pos c28] at H
             have c28b0 := eq_true c28
             have c28b1 : decide (x10_2 ≤ (x8_1.length : Int)) = true := decide_eq_true c28
             clear c28
             obtain ⟨y228, hy228⟩ : ∃ y_ : List (S38), y_ = (x8_1.take (x10_2 : Int).toNat) := ⟨_, rfl⟩
             replace H : (if ([] : List (S38)).length + y228.length < 1759218604441 then ((some (([] : List (S38)) ++ y228 : List (S38))).bind fun y233 => (if 0 ≤ x9_1 then (if x9_1 < (t220.length : Int) then ((some (([(⟨(rd_T38 t220 x9_1).f0, (rd_T38 t220 x9_1).f1, (⟨(rd_T38 t220 x9_1).f2.f0, (rd_T38 t220 x9_1).f2.f1, (rd_T38 t220 x9_1).f2.f2⟩ : S36), (⟨(rd_T38 t220 x9_1).f3.f0, (rd_T38 t220 x9_1).f3.f1, (rd_T38 t220 x9_1).f3.f2⟩ : S36)⟩ : S38)] : List (S38)) : List (S38))).bind fun y237 => (if y233.length + y237.length < 1759218604441 then ((some (y233 ++ y237 : List (S38))).bind fun y240 => ((some (x8_1.drop (x10_2 : Int).toNat : List (S38))).bind fun y243 => (if y240.length + y243.length < 1759218604441 then (tithebarnref17_below.l0 kj14 t220 (y240 ++ y243) (wrap64 (x9_1 + 1)) a2_0 a2_1 a2_2 a2_3 a2_4 a2_5 a2_6 a2_7) else (none)))) else (none))) else (none)) else (none))) else (none)) = some r := by first | (rw [hy228]; with_reducible exact H) | (have H2_ := (Option.bind_some _ _).symm.trans H; rw [hy228]; with_reducible exact H2_) | (have H2_ := (Option.bind_some _ _).symm.trans H; with_reducible exact H2_) | with_reducible exact H | (rw [hy228]; exact H) | exact H
             have Ny228 := Aside0.mk hy228
             clear hy228
             by_cases c29 : ([] : List (S38)).length + y228.length < 1759218604441
             ·rw [if_pos c29] at H
              have LMc29 := Aside0.mk c29
              clear c29
              obtain ⟨y233, hy233⟩ : ∃ y_ : List (S38), y_ = (([] : List (S38)) ++ y228) := ⟨_, rfl⟩
              replace H : (if 0 ≤ x9_1 then (if x9_1 < (t220.length : Int) then ((some (([(⟨(rd_T38 t220 x9_1).f0, (rd_T38 t220 x9_1).f1, (⟨(rd_T38 t220 x9_1).f2.f0, (rd_T38 t220 x9_1).f2.f1, (rd_T38 t220 x9_1).f2.f2⟩ : S36), (⟨(rd_T38 t220 x9_1).f3.f0, (rd_T38 t220 x9_1).f3.f1, (rd_T38 t220 x9_1).f3.f2⟩ : S36)⟩ : S38)] : List (S38)) : List (S38))).bind fun y237 => (if y233.length + y237.length < 1759218604441 then ((some (y233 ++ y237 : List (S38))).bind fun y240 => ((some (x8_1.drop (x10_2 : Int).toNat : List (S38))).bind fun y243 => (if y240.length + y243.length < 1759218604441 then (tithebarnref17_below.l0 kj14 t220 (y240 ++ y243) (wrap64 (x9_1 + 1)) a2_0 a2_1 a2_2 a2_3 a2_4 a2_5 a2_6 a2_7) else (none)))) else (none))) else (none)) else (none)) = some r := by first | (rw [hy233]; with_reducible exact H) | (have H2_ := (Option.bind_some _ _).symm.trans H; rw [hy233]; with_reducible exact H2_) | (have H2_ := (Option.bind_some _ _).symm.trans H; with_reducible exact H2_) | with_reducible exact H | (rw [hy233]; exact H) | exact H
              have Ny233 := Aside0.mk hy233
              clear hy233
              by_cases c30 : 0 ≤ x9_1
              ·rw [if_pos c30] at H
               have c30b0 : decide (0 ≤ x9_1) = true := decide_eq_true c30
               clear c30
               by_cases c31 : x9_1 < (t220.length : Int)
               ·rw [if_pos c31] at H
                have c31b0 : decide (x9_1 < (t220.length : Int)) = true := decide_eq_true c31
                clear c31
                obtain ⟨y237, hy237⟩ : ∃ y_ : List (S38), y_ = (([(⟨(rd_T38 t220 x9_1).f0, (rd_T38 t220 x9_1).f1, (⟨(rd_T38 t220 x9_1).f2.f0, (rd_T38 t220 x9_1).f2.f1, (rd_T38 t220 x9_1).f2.f2⟩ : S36), (⟨(rd_T38 t220 x9_1).f3.f0, (rd_T38 t220 x9_1).f3.f1, (rd_T38 t220 x9_1).f3.f2⟩ : S36)⟩ : S38)] : List (S38))) := ⟨_, rfl⟩
                replace H : (if y233.length + y237.length < 1759218604441 then ((some (y233 ++ y237 : List (S38))).bind fun y240 => ((some (x8_1.drop (x10_2 : Int).toNat : List (S38))).bind fun y243 => (if y240.length + y243.length < 1759218604441 then (tithebarnref17_below.l0 kj14 t220 (y240 ++ y243) (wrap64 (x9_1 + 1)) a2_0 a2_1 a2_2 a2_3 a2_4 a2_5 a2_6 a2_7) else (none)))) else (none)) = some r := by first | (rw [hy237]; with_reducible exact H) | (have H2_ := (Option.bind_some _ _).symm.trans H; rw [hy237]; with_reducible exact H2_) | (have H2_ := (Option.bind_some _ _).symm.trans H; with_reducible exact H2_) | with_reducible exact H | (rw [hy237]; exact H) | exact H
                have Ny237 := Aside0.mk hy237
                clear hy237
                by_cases c32 : y233.length + y237.length < 1759218604441
                ·rw [if_pos c32] at H
                 have LMc32 := Aside0.mk c32
                 clear c32
                 obtain ⟨y240, hy240⟩ : ∃ y_ : List (S38), y_ = (y233 ++ y237) := ⟨_, rfl⟩
                 replace H : ((some (x8_1.drop (x10_2 : Int).toNat : List (S38))).bind fun y243 => (if y240.length + y243.length < 1759218604441 then (tithebarnref17_below.l0 kj14 t220 (y240 ++ y243) (wrap64 (x9_1 + 1)) a2_0 a2_1 a2_2 a2_3 a2_4 a2_5 a2_6 a2_7) else (none))) = some r := by first | (rw [hy240]; with_reducible exact H) | (have H2_ := (Option.bind_some _ _).symm.trans H; rw [hy240]; with_reducible exact H2_) | (have H2_ := (Option.bind_some _ _).symm.trans H; with_reducible exact H2_) | with_reducible exact H | (rw [hy240]; exact H) | exact H
                 have Ny240 := Aside0.mk hy240
                 clear hy240
                 have c33b0 := eq_true (of_decide_eq_true (by with_reducible assumption) : 0 ≤ x10_2)
                 have c34b0 := eq_true (of_decide_eq_true (by with_reducible assumption) : x10_2 ≤ (x8_1.length : Int))
                 obtain ⟨y243, hy243⟩ : ∃ y_ : List (S38), y_ = (x8_1.drop (x10_2 : Int).toNat) := ⟨_, rfl⟩
                 replace H : (if y240.length + y243.length < 1759218604441 then (tithebarnref17_below.l0 kj14 t220 (y240 ++ y243) (wrap64 (x9_1 + 1)) a2_0 a2_1 a2_2 a2_3 a2_4 a2_5 a2_6 a2_7) else (none)) = some r := by first | (rw [hy243]; with_reducible exact H) | (have H2_ := (Option.bind_some _ _).symm.trans H; rw [hy243]; with_reducible exact H2_) | (have H2_ := (Option.bind_some _ _).symm.trans H; with_reducible exact H2_) | with_reducible exact H | (rw [hy243]; exact H) | exact H
                 have Ny243 := Aside0.mk hy243
                 clear hy243
                 by_cases c35 : y240.length + y243.length < 1759218604441
                 ·rw [if_pos c35] at H
                  have LMc35 := Aside0.mk c35
                  clear c35
                  obtain ⟨y248, hy248⟩ : ∃ y_ : List (S38), y_ = (y240 ++ y243) := ⟨_, rfl⟩
                  replace H : (tithebarnref17_below.l0 kj14 t220 y248 (wrap64 (x9_1 + 1)) a2_0 a2_1 a2_2 a2_3 a2_4 a2_5 a2_6 a2_7) = some r := by first | (rw [hy248]; with_reducible exact H) | (have H2_ := (Option.bind_some _ _).symm.trans H; rw [hy248]; with_reducible exact H2_) | (have H2_ := (Option.bind_some _ _).symm.trans H; with_reducible exact H2_) | with_reducible exact H | (rw [hy248]; exact H) | exact H
                  have Ny248 := Aside0.mk hy248
                  clear hy248
                  have H' := Aside0.mk H
                  clear H
                  try go_wp2
                  have n0_ := Aside0.mk (Kd.R_drew HO_7.out)
                  have n1_ := Aside0.mk (Kd.R_drew HO_8.out)
                  have n2_ := Aside0.mk (blk_drew BK219.out)
                  have n3_ := Aside0.mk (below_drew1 HB.out)
                  clear HO_7
                  clear HO_8
                  clear BK219
                  clear HB
                  have HO_7 := n0_
                  have HO_8 := n1_
                  have BK219 := n2_
                  have HB := n3_
                  clear n0_ n1_ n2_ n3_
                  have q37 : (x10_2 : Int) ≤ ((x8_1.length : Int) : Int) := of_decide_eq_true (by with_reducible assumption)
                  obtain ⟨i037, hi037, _, hsz37, _⟩ := info_parts info38
                  have hroom37 : x8_1.length ≤ co14 := (Kd.R_reads' HO_8.out).2.1
                  have hC37 : Kd.F k38 _ _ Ao14 x8_1.length x8_1 := (Kd.V_at (base := w.heap.size) (Kd.R_V HO_8.out)).2.2
                  have hcut37 := cut_to (P := Try.prog) 22 38 .i64 Try.underlying22 hi037 Ao14 x8_1.length co14 x10_2 (of_decide_eq_true (by with_reducible assumption)) q37 hroom37
                  have hr37 := Kd.F_take (m := (x10_2 : Int).toNat) hC37 (by omega)
                  have hy37 : y228.length = (x10_2 : Int).toNat := (by rw [Ny228.out, List.length_take]; omega)
                  rw [← Ny228.out] at hr37
                  rw [← hy37] at hcut37
                  have HO232 := Aside0.mk (show Kd.V k38 38 _ w.heap.size _ (.slice Ao14 y228.length co14) y228 from Kd.V_mk (by omega) hr37)
                  have HC232 := Aside0.mk (show y228.length ≤ co14 from by omega)
                  clear hr37 hC37 hroom37 hi037 hsz37
                  have KY37 := Aside0.mk hy37
                  clear hy37
                  replace q37 := eq_true q37
                  have p236 : 0 ≤ (x9_1 : Int) := of_decide_eq_true (by with_reducible assumption)
                  have q236 : x9_1 < (t220.length : Int) := of_decide_eq_true (by with_reducible assumption)
                  obtain ⟨ad236, e236, hx236_0, hx236_1, hx236_2, hx236_3, hx236_4, hx236_5, hx236_6, hx236_7⟩ := at_T38 (Kd.R_reads' HO_7.out).2.2 x9_1 p236 q236
                  obtain rfl : ad223 = ad236 := (by injection e236)
                  replace p236 := eq_true p236
                  replace q236 := eq_true q236
                  have q38 : (x10_2 : Int) ≤ ((x8_1.length : Int) : Int) := of_decide_eq_true (by with_reducible assumption)
                  obtain ⟨i038, hi038, _, hsz38, _⟩ := info_parts info38
                  have hroom38 : x8_1.length ≤ co14 := (Kd.R_reads' HO_8.out).2.1
                  have hC38 : Kd.F k38 _ _ Ao14 x8_1.length x8_1 := (Kd.V_at (base := w.heap.size) (Kd.R_V HO_8.out)).2.2
                  have q038 : (0 : Int) ≤ (x10_2 : Int) := of_decide_eq_true (by with_reducible assumption)
                  have hcut38 := cut_from (P := Try.prog) 22 38 .i64 Try.underlying22 hi038 8 hsz38 Ao14 x8_1.length co14 x10_2 q038 q38
                  have hr38 := Kd.F_cut (m := (x10_2 : Int).toNat) (c := co14) hC38 (by omega) hroom38
                  obtain ⟨A38, hA38⟩ : ∃ A1, A1 = (if co14 = (x10_2 : Int).toNat then Ao14 else (Ao14 : Option Addr).map (·.add ((x10_2 : Int).toNat * 8))) := ⟨_, rfl⟩
                  obtain ⟨c38, hc38⟩ : ∃ c1, c1 = co14 - (x10_2 : Int).toNat := ⟨_, rfl⟩
                  have hy38 : y243.length = x8_1.length - (x10_2 : Int).toNat := (by rw [Ny243.out, List.length_drop] <;> omega)
                  rw [show (x8_1).drop (x10_2 : Int).toNat = y243 from Ny243.out.symm] at hr38
                  replace hr38 : Kd.F k38 _ _ A38 y243.length y243 := (by rw [hA38]; exact hr38)
                  rw [← hy38, ← hA38, ← hc38] at hcut38
                  have HO247 := Aside0.mk (show Kd.V k38 38 _ w.heap.size _ (.slice A38 y243.length c38) y243 from Kd.V_mk (by rw [hy38, hc38]; exact Nat.sub_le_sub_right hroom38 _) hr38)
                  have HC247 := Aside0.mk (show y243.length ≤ c38 from by rw [hy38, hc38]; exact Nat.sub_le_sub_right hroom38 _)
                  clear hr38 hC38 hroom38 hi038 hsz38 hc38
                  have KY38 := Aside0.mk hy38
                  have KA38 := Aside0.mk hA38
                  clear hy38 hA38
                  replace q38 := eq_true q38
                  refine start_ (n := 15) (S := fun w' => w'.cell? (ad223.add ((x9_1).toNat * 8)) = some (.int .i64 ((rd_T38 t220 x9_1).f0)) ∧ w'.cell? ⟨(ad223.add ((x9_1).toNat * 8)).block, (ad223.add ((x9_1).toNat * 8)).off + 1, none⟩ = some (.int .i64 ((rd_T38 t220 x9_1).f1)) ∧ w'.cell? ⟨(ad223.add ((x9_1).toNat * 8)).block, (ad223.add ((x9_1).toNat * 8)).off + 2, none⟩ = some (.bool ((rd_T38 t220 x9_1).f2.f0)) ∧ w'.cell? ⟨(ad223.add ((x9_1).toNat * 8)).block, (ad223.add ((x9_1).toNat * 8)).off + 3, none⟩ = some (.int .i64 ((rd_T38 t220 x9_1).f2.f1)) ∧ w'.cell? ⟨(ad223.add ((x9_1).toNat * 8)).block, (ad223.add ((x9_1).toNat * 8)).off + 4, none⟩ = some (.string ((rd_T38 t220 x9_1).f2.f2)) ∧ w'.cell? ⟨(ad223.add ((x9_1).toNat * 8)).block, (ad223.add ((x9_1).toNat * 8)).off + 5, none⟩ = some (.bool ((rd_T38 t220 x9_1).f3.f0)) ∧ w'.cell? ⟨(ad223.add ((x9_1).toNat * 8)).block, (ad223.add ((x9_1).toNat * 8)).off + 6, none⟩ = some (.int .i64 ((rd_T38 t220 x9_1).f3.f1)) ∧ w'.cell? ⟨(ad223.add ((x9_1).toNat * 8)).block, (ad223.add ((x9_1).toNat * 8)).off + 7, none⟩ = some (.string ((rd_T38 t220 x9_1).f3.f2))) (ds := [9, 13]) #[false, false, false, false, false, false, false, false, false, false, false, false, false, false, false] (by kernel_rfl) rfl rfl ⟨hx236_0, hx236_1, hx236_2, hx236_3, hx236_4, hx236_5, hx236_6, hx236_7⟩ (fun hHeld => ?_); refine with_tabW tithebarnref17_below.tab10 tithebarnref17_below.bits10 (fun HT_ HW_ => ?_)
                  generalize wc.drew = w36 at HO_7 HO_8 BK219 HB HO232 HO247 hx236_0 hx236_1 hx236_2 hx236_3 hx236_4 hx236_5 hx236_6 hx236_7 hHeld ⊢
                  refine pure_ (i := 0) (N := some 47) (v := ?_) (a' := ?_) #[true, false, false, false, false, false, false, false, false, false, false, false, false, false, false] rfl rfl (any_of HT_.out (by kernel_rfl)) (fun _ _ _ h => h) (Or.inl ⟨by rfl, ?_⟩) ?_ ?_
                  rotate_left
                  ·intro w'
                   go_simp
                   with_reducible rfl
                  rotate_left
                  ·simp only [Act.put, List.setIfInBounds_toArray, List.set_cons_zero, List.set_cons_succ, i64_w, i32_w]
                   rfl
                  refine pure_ (i := 1) (N := some 48) (v := ?_) (a' := ?_) #[true, true, false, false, false, false, false, false, false, false, false, false, false, false, false] rfl rfl (any_of HT_.out (by kernel_rfl)) (fun _ _ _ h => h) (Or.inl ⟨by rfl, ?_⟩) ?_ ?_
                  rotate_left
                  ·intro w'
                   go_simp
                   with_reducible rfl
                  rotate_left
                  ·simp only [Act.put, List.setIfInBounds_toArray, List.set_cons_zero, List.set_cons_succ, i64_w, i32_w]
                   rfl
                  refine pure_ (i := 2) (N := some 49) (v := ?_) (a' := ?_) #[true, true, true, false, false, false, false, false, false, false, false, false, false, false, false] rfl rfl (any_of HT_.out (by kernel_rfl)) (fun _ _ _ h => h) (Or.inl ⟨by rfl, ?_⟩) ?_ ?_
                  rotate_left
                  ·intro w'
                   go_simp
                   with_reducible rfl
                  rotate_left
                  ·simp only [Act.put, List.setIfInBounds_toArray, List.set_cons_zero, List.set_cons_succ, i64_w, i32_w]
                   rfl
                  refine pure_ (i := 4) (N := some 51) (v := ?_) (a' := ?_) #[true, true, true, false, true, false, false, false, false, false, false, false, false, false, false] rfl rfl (any_of HT_.out (by kernel_rfl)) (fun _ _ _ h => h) (Or.inl ⟨by rfl, ?_⟩) ?_ ?_
                  rotate_left
                  ·intro w'
                   go_simp
                   with_reducible rfl
                  rotate_left
                  ·simp only [Act.put, List.setIfInBounds_toArray, List.set_cons_zero, List.set_cons_succ, i64_w, i32_w]
                   rfl
                  refine pure_ (i := 5) (N := some 52) (v := ?_) (a' := ?_) #[true, true, true, false, true, true, false, false, false, false, false, false, false, false, false] rfl rfl (any_of HT_.out (by kernel_rfl)) (fun _ _ _ h => h) (Or.inl ⟨by rfl, ?_⟩) ?_ ?_
                  rotate_left
                  ·intro w'
                   go_simp
                   with_reducible rfl
                  rotate_left
                  ·simp only [Act.put, List.setIfInBounds_toArray, List.set_cons_zero, List.set_cons_succ, i64_w, i32_w]
                   rfl
                  refine pure_ (i := 6) (N := some 53) (v := ?_) (a' := ?_) #[true, true, true, false, true, true, true, false, false, false, false, false, false, false, false] rfl rfl (any_of HT_.out (by kernel_rfl)) (fun _ _ _ h => h) (Or.inl ⟨by rfl, ?_⟩) ?_ ?_
                  rotate_left
                  ·intro w'
                   go_simp
                   with_reducible rfl
                  rotate_left
                  ·simp only [Act.put, List.setIfInBounds_toArray, List.set_cons_zero, List.set_cons_succ, i64_w, i32_w]
                   rfl
                  refine pure_ (i := 10) (N := some 57) (v := ?_) (a' := ?_) #[true, true, true, false, true, true, true, false, false, false, true, false, false, false, false] rfl rfl (any_of HT_.out (by kernel_rfl)) (fun _ _ _ h => h) (Or.inl ⟨by rfl, ?_⟩) ?_ ?_
                  rotate_left
                  ·intro w'
                   go_simp
                   with_reducible rfl
                  rotate_left
                  ·simp only [Act.put, List.setIfInBounds_toArray, List.set_cons_zero, List.set_cons_succ, i64_w, i32_w]
                   rfl
                  refine pure_ (i := 11) (N := some 58) (v := ?_) (a' := ?_) #[true, true, true, false, true, true, true, false, false, false, true, true, false, false, false] rfl rfl (any_of HT_.out (by kernel_rfl)) (fun _ _ _ h => h) (Or.inl ⟨by rfl, ?_⟩) ?_ ?_
                  rotate_left
                  ·intro w'
                   go_simp
                   with_reducible rfl
                  rotate_left
                  ·simp only [Act.put, List.setIfInBounds_toArray, List.set_cons_zero, List.set_cons_succ, i64_w, i32_w]
                   rfl
                  refine pure_ (i := 12) (N := some 59) (v := ?_) (a' := ?_) #[true, true, true, false, true, true, true, false, false, false, true, true, true, false, false] rfl rfl (any_of HT_.out (by kernel_rfl)) (fun _ _ _ h => h) (Or.inl ⟨by rfl, ?_⟩) ?_ ?_
                  rotate_left
                  ·intro w'
                   go_simp
                   with_reducible rfl
                  rotate_left
                  ·simp only [Act.put, List.setIfInBounds_toArray, List.set_cons_zero, List.set_cons_succ, i64_w, i32_w]
                   rfl
                  refine take_ (i := 7) (N := some 54) (v := ?_) (a' := ?_) #[true, true, true, false, true, true, true, true, false, false, true, true, true, false, false] rfl rfl (take_ofW HT_.out HW_.out (by kernel_rfl)) (fun _ _ _ h => h) (Or.inl ⟨by rfl, ?_⟩) hHeld ?_ ?_
                  rotate_left
                  ·rintro w' ⟨s0, s1, s2, s3, s4, s5, s6, s7⟩
                   go_simp
                   with_reducible rfl
                  rotate_left
                  ·simp only [Act.put, List.setIfInBounds_toArray, List.set_cons_zero, List.set_cons_succ, i64_w, i32_w]
                   rfl
                  refine join_ (σ := Value × Value) 3 #[true, true, true, true, true, true, true, true, true, false, true, true, true, false, false] (fun s_ => [(50, s_.1), (55, s_.2)]) (fun s_ w' => (w'.cell? (ad223.add ((x9_1).toNat * 8)) = some (.int .i64 ((rd_T38 t220 x9_1).f0)) ∧ w'.cell? ⟨(ad223.add ((x9_1).toNat * 8)).block, (ad223.add ((x9_1).toNat * 8)).off + 1, none⟩ = some (.int .i64 ((rd_T38 t220 x9_1).f1)) ∧ w'.cell? ⟨(ad223.add ((x9_1).toNat * 8)).block, (ad223.add ((x9_1).toNat * 8)).off + 2, none⟩ = some (.bool ((rd_T38 t220 x9_1).f2.f0)) ∧ w'.cell? ⟨(ad223.add ((x9_1).toNat * 8)).block, (ad223.add ((x9_1).toNat * 8)).off + 3, none⟩ = some (.int .i64 ((rd_T38 t220 x9_1).f2.f1)) ∧ w'.cell? ⟨(ad223.add ((x9_1).toNat * 8)).block, (ad223.add ((x9_1).toNat * 8)).off + 4, none⟩ = some (.string ((rd_T38 t220 x9_1).f2.f2)) ∧ w'.cell? ⟨(ad223.add ((x9_1).toNat * 8)).block, (ad223.add ((x9_1).toNat * 8)).off + 5, none⟩ = some (.bool ((rd_T38 t220 x9_1).f3.f0)) ∧ w'.cell? ⟨(ad223.add ((x9_1).toNat * 8)).block, (ad223.add ((x9_1).toNat * 8)).off + 6, none⟩ = some (.int .i64 ((rd_T38 t220 x9_1).f3.f1)) ∧ w'.cell? ⟨(ad223.add ((x9_1).toNat * 8)).block, (ad223.add ((x9_1).toNat * 8)).off + 7, none⟩ = some (.string ((rd_T38 t220 x9_1).f3.f2))) ∧ (Kd.V k38 38 w' w.heap.size (fun k_ => some k_ ≠ (s_.1 : Value).ownBlock ∧ some k_ ≠ (s_.2 : Value).ownBlock ∧ some k_ ≠ (.slice (some ad223) t220.length co11 : Value).ownBlock ∧ k_ ≠ gb219) (.slice Ao14 y228.length co14) y228) ∧ (Kd.R k38 38 w' w.heap.size (fun k_ => some k_ ≠ (s_.2 : Value).ownBlock ∧ some k_ ≠ (.slice (some ad223) t220.length co11 : Value).ownBlock ∧ some k_ ≠ (.slice Ao14 x8_1.length co14 : Value).ownBlock ∧ k_ ≠ gb219) s_.1 y233) ∧ (Kd.R k38 38 w' w.heap.size (fun k_ => some k_ ≠ (s_.1 : Value).ownBlock ∧ some k_ ≠ (.slice (some ad223) t220.length co11 : Value).ownBlock ∧ some k_ ≠ (.slice Ao14 x8_1.length co14 : Value).ownBlock ∧ k_ ≠ gb219) s_.2 y237) ∧ (Kd.V k38 38 w' w.heap.size (fun k_ => some k_ ≠ (s_.1 : Value).ownBlock ∧ some k_ ≠ (s_.2 : Value).ownBlock ∧ some k_ ≠ (.slice (some ad223) t220.length co11 : Value).ownBlock ∧ k_ ≠ gb219) (.slice A38 y243.length c38) y243) ∧ (Kd.R k38 38 w' w.heap.size (fun k_ => some k_ ≠ (s_.1 : Value).ownBlock ∧ some k_ ≠ (s_.2 : Value).ownBlock ∧ some k_ ≠ (.slice Ao14 x8_1.length co14 : Value).ownBlock ∧ k_ ≠ gb219) (.slice (some ad223) t220.length co11) t220) ∧ (Kd.R k38 38 w' w.heap.size (fun k_ => some k_ ≠ (s_.1 : Value).ownBlock ∧ some k_ ≠ (s_.2 : Value).ownBlock ∧ some k_ ≠ (.slice (some ad223) t220.length co11 : Value).ownBlock ∧ k_ ≠ gb219) (.slice Ao14 x8_1.length co14) x8_1) ∧ (w'.heap[gb219]? = some (.cells #[.int .i64 a2_0, .int .i64 a2_1, .bool a2_2, .int .i64 a2_3, .string a2_4, .bool a2_5, .int .i64 a2_6, .string a2_7] 38 (0, 0))) ∧ (Below w.heap.size w w')) ?_ ?_
                  rotate_left
                  ·intro hCont
                   refine two_ (i := 3) (j := 8) (Ni := some 50) (Nj := some 55) #[true, true, true, true, true, true, true, true, false, false, true, true, true, false, false] #[true, true, true, false, true, true, true, true, true, false, true, true, true, false, false] rfl rfl rfl rfl (two_of HT_.out (by kernel_rfl)) (by decide) (by decide) (fun K hK => ?_) (fun K hK => ?_)
                   ·skip
                    refine Kd.R_append_rows_step k38 (w0 := w) w.heap.size (by rfl) (.const (.slice none 0 0)) (.tmp 49) 22 38 (.agg #[(.int .i64 0), (.int .i64 0), (.bool false), (.int .i64 0), (.string ⟨#[]⟩), (.bool false), (.int .i64 0), (.string ⟨#[]⟩)]) 80 rfl Try.underlying22 info38 rfl (by decide) (by omega) (.slice none 0 0) ([] : List (S38)) y228 _ _ _ (fun k_ => some k_ ≠ (.slice (some ad223) t220.length co11 : Value).ownBlock ∧ some k_ ≠ (.slice Ao14 x8_1.length co14 : Value).ownBlock ∧ k_ ≠ gb219) (fun _ => False) rfl rfl ?aO ?aR (fun _ _ h => h) (fun _ h => h.elim) ?aF ?aB ?aS ?aL ?_
                    (case aR => repeat (first | exact (Kd.V_reads' HO232.out).2.2 | (with_reducible refine Kd.C_alloc ?_ _) | (with_reducible refine Kd.C_drewN ?_ _) | (with_reducible refine Kd.C_drew ?_)))
                    (case aB => exact (by with_reducible repeat first | exact HB.out | apply below_alloc | apply pw_below_drewN | apply below_drew1 | refine below_set ?_ GE219.out))
                    (case aF => exact (fun k_ hk => ⟨Kd.fresh' (Kd.R_lt (by (with_reducible repeat (first | apply Kd.R_alloc | apply Kd.R_drewN | apply Kd.R_drew)); exact HO_7.out)) k_ hk, Kd.fresh' (Kd.R_lt (by (with_reducible repeat (first | apply Kd.R_alloc | apply Kd.R_drewN | apply Kd.R_drew)); exact HO_8.out)) k_ hk, Kd.freshB (g := gb219) (o := .cells #[.int .i64 a2_0, .int .i64 a2_1, .bool a2_2, .int .i64 a2_3, .string a2_4, .bool a2_5, .int .i64 a2_6, .string a2_7] 38 (0, 0)) (by (with_reducible repeat (first | refine blk_drewN ?_ _ | refine blk_drew ?_ | refine blk_alloc ?_ _)); exact BK219.out) k_ hk⟩))
                    (case aO => exact ((Kd.R_nil _ _ _ _ (fun k_ => some k_ ≠ (.slice (some ad223) t220.length co11 : Value).ownBlock ∧ some k_ ≠ (.slice Ao14 x8_1.length co14 : Value).ownBlock ∧ k_ ≠ gb219))))
                    (case aS => exact (below_size (by with_reducible repeat first | exact HB.out | apply below_alloc | apply pw_below_drewN | apply below_drew1 | refine below_set ?_ GE219.out)))
                    (case aL => have := LMc29.out; omega)
                    intro v234 w39 ho hb hg hat
                    (first | have HS0_ := cell_grown hg (hHeld.1) (by simp [Value.ownBlock]) | have HS0_ := cell_grown hg (cell_unalloc (hHeld.1) (World.block_lt_of_cell? _ _ (hHeld.1))) (by simp [Value.ownBlock]))
                    (first | have HS1_ := cell_grown hg (hHeld.2.1) (by simp [Value.ownBlock]) | have HS1_ := cell_grown hg (cell_unalloc (hHeld.2.1) (World.block_lt_of_cell? _ _ (hHeld.2.1))) (by simp [Value.ownBlock]))
                    (first | have HS2_ := cell_grown hg (hHeld.2.2.1) (by simp [Value.ownBlock]) | have HS2_ := cell_grown hg (cell_unalloc (hHeld.2.2.1) (World.block_lt_of_cell? _ _ (hHeld.2.2.1))) (by simp [Value.ownBlock]))
                    (first | have HS3_ := cell_grown hg (hHeld.2.2.2.1) (by simp [Value.ownBlock]) | have HS3_ := cell_grown hg (cell_unalloc (hHeld.2.2.2.1) (World.block_lt_of_cell? _ _ (hHeld.2.2.2.1))) (by simp [Value.ownBlock]))
                    (first | have HS4_ := cell_grown hg (hHeld.2.2.2.2.1) (by simp [Value.ownBlock]) | have HS4_ := cell_grown hg (cell_unalloc (hHeld.2.2.2.2.1) (World.block_lt_of_cell? _ _ (hHeld.2.2.2.2.1))) (by simp [Value.ownBlock]))
                    (first | have HS5_ := cell_grown hg (hHeld.2.2.2.2.2.1) (by simp [Value.ownBlock]) | have HS5_ := cell_grown hg (cell_unalloc (hHeld.2.2.2.2.2.1) (World.block_lt_of_cell? _ _ (hHeld.2.2.2.2.2.1))) (by simp [Value.ownBlock]))
                    (first | have HS6_ := cell_grown hg (hHeld.2.2.2.2.2.2.1) (by simp [Value.ownBlock]) | have HS6_ := cell_grown hg (cell_unalloc (hHeld.2.2.2.2.2.2.1) (World.block_lt_of_cell? _ _ (hHeld.2.2.2.2.2.2.1))) (by simp [Value.ownBlock]))
                    (first | have HS7_ := cell_grown hg (hHeld.2.2.2.2.2.2.2) (by simp [Value.ownBlock]) | have HS7_ := cell_grown hg (cell_unalloc (hHeld.2.2.2.2.2.2.2) (World.block_lt_of_cell? _ _ (hHeld.2.2.2.2.2.2.2))) (by simp [Value.ownBlock]))
                    rw [← Ny233.out] at ho
                    have n0_ := Aside0.mk (Kd.R_after (Kd.R_apart_nil (by (with_reducible repeat (first | apply Kd.R_alloc | apply Kd.R_drewN | apply Kd.R_drew)); exact HO_7.out)) hg hat)
                    have n1_ := Aside0.mk (Kd.R_after (Kd.R_apart_nil (by (with_reducible repeat (first | apply Kd.R_alloc | apply Kd.R_drewN | apply Kd.R_drew)); exact HO_8.out)) hg hat)
                    have n2_ := Aside0.mk (blk_grown (g := gb219) (o := .cells #[.int .i64 a2_0, .int .i64 a2_1, .bool a2_2, .int .i64 a2_3, .string a2_4, .bool a2_5, .int .i64 a2_6, .string a2_7] 38 (0, 0)) (by (with_reducible repeat (first | refine blk_drewN ?_ _ | refine blk_drew ?_ | refine blk_alloc ?_ _)); exact BK219.out) hg (by simp [Value.ownBlock]))
                    have n3_ := Aside0.mk (Kd.V_afterv (Kd.V_apart_nil (by (with_reducible repeat (first | apply Kd.V_alloc | apply Kd.V_drewN | apply Kd.V_drew)); exact HO232.out)) hg hat)
                    have n4_ := Aside0.mk (Kd.V_afterv (Kd.V_apart_nil (by (with_reducible repeat (first | apply Kd.V_alloc | apply Kd.V_drewN | apply Kd.V_drew)); exact HO247.out)) hg hat)
                    have n5_ := Aside0.mk (hb)
                    have n6_ := Aside0.mk (ho)
                    clear HO_7
                    clear HO_8
                    clear BK219
                    clear HO232
                    clear HO247
                    clear HB
                    have HO_7 := n0_
                    have HO_8 := n1_
                    have BK219 := n2_
                    have HO232 := n3_
                    have HO247 := n4_
                    have HB := n5_
                    have HO235 := n6_
                    clear n0_ n1_ n2_ n3_ n4_ n5_ n6_
                    clear ho hb hg hat
                    refine hK.out _ _ ⟨HS0_, HS1_, HS2_, HS3_, HS4_, HS5_, HS6_, HS7_⟩ (fun hHeld => ?_)
                    clear hK K
                    refine norm_ (a' := ?_) ?_ ?_
                    rotate_left
                    ·show Act.put _ (some 50) _ = _
                     simp only [Act.put, List.setIfInBounds_toArray, List.set_cons_zero, List.set_cons_succ, i64_w, i32_w]
                     rfl
                    refine one_ (i := 8) (N := some 55) #[true, true, true, true, true, true, true, true, true, false, true, true, true, false, false] rfl rfl (one_of HT_.out (by kernel_rfl)) (by decide) (fun K hK => ?_)
                    refine Kd.R_lit_step k38 _ 38 ?hg (N := 55) ?hd (xs := ([(⟨(rd_T38 t220 x9_1).f0, (rd_T38 t220 x9_1).f1, (⟨(rd_T38 t220 x9_1).f2.f0, (rd_T38 t220 x9_1).f2.f1, (rd_T38 t220 x9_1).f2.f2⟩ : S36), (⟨(rd_T38 t220 x9_1).f3.f0, (rd_T38 t220 x9_1).f3.f1, (rd_T38 t220 x9_1).f3.f2⟩ : S36)⟩ : S38)] : List (S38))) (inner := [.int .i64 ((rd_T38 t220 x9_1).f0), .int .i64 ((rd_T38 t220 x9_1).f1), .bool ((rd_T38 t220 x9_1).f2.f0), .int .i64 ((rd_T38 t220 x9_1).f2.f1), .string ((rd_T38 t220 x9_1).f2.f2), .bool ((rd_T38 t220 x9_1).f3.f0), .int .i64 ((rd_T38 t220 x9_1).f3.f1), .string ((rd_T38 t220 x9_1).f3.f2)]) (ok := fun _ => True) (okp := fun _ => True) ?hr ?hp (fun _ hk => hk) trivial (Below.refl _ _) (Nat.le_refl _) (by simp) ?_; (case hd => rfl); (case hg => rfl); (case hr => first | (go_simp; done) | (go_simp; rfl)); (case hp => exact (Reps.c8 (show Kd.M k38 _ _ _ (⟨(rd_T38 t220 x9_1).f0, (rd_T38 t220 x9_1).f1, (⟨(rd_T38 t220 x9_1).f2.f0, (rd_T38 t220 x9_1).f2.f1, (rd_T38 t220 x9_1).f2.f2⟩ : S36), (⟨(rd_T38 t220 x9_1).f3.f0, (rd_T38 t220 x9_1).f3.f1, (rd_T38 t220 x9_1).f3.f2⟩ : S36)⟩ : S38) [.int .i64 ((rd_T38 t220 x9_1).f0), .int .i64 ((rd_T38 t220 x9_1).f1), .bool ((rd_T38 t220 x9_1).f2.f0), .int .i64 ((rd_T38 t220 x9_1).f2.f1), .string ((rd_T38 t220 x9_1).f2.f2), .bool ((rd_T38 t220 x9_1).f3.f0), .int .i64 ((rd_T38 t220 x9_1).f3.f1), .string ((rd_T38 t220 x9_1).f3.f2)] from (k38_mkM _ _ _ (⟨(rd_T38 t220 x9_1).f0, (rd_T38 t220 x9_1).f1, (⟨(rd_T38 t220 x9_1).f2.f0, (rd_T38 t220 x9_1).f2.f1, (rd_T38 t220 x9_1).f2.f2⟩ : S36), (⟨(rd_T38 t220 x9_1).f3.f0, (rd_T38 t220 x9_1).f3.f1, (rd_T38 t220 x9_1).f3.f2⟩ : S36)⟩ : S38) )) (Reps.none _ _)))
                    intro v238 w40 ho41 hb hg_ hnew_
                    have HS0_ := (hb.cell (World.block_lt_of_cell? _ _ (hHeld.1))).trans (hHeld.1)
                    have HS1_ := (hb.cell (World.block_lt_of_cell? _ _ (hHeld.2.1))).trans (hHeld.2.1)
                    have HS2_ := (hb.cell (World.block_lt_of_cell? _ _ (hHeld.2.2.1))).trans (hHeld.2.2.1)
                    have HS3_ := (hb.cell (World.block_lt_of_cell? _ _ (hHeld.2.2.2.1))).trans (hHeld.2.2.2.1)
                    have HS4_ := (hb.cell (World.block_lt_of_cell? _ _ (hHeld.2.2.2.2.1))).trans (hHeld.2.2.2.2.1)
                    have HS5_ := (hb.cell (World.block_lt_of_cell? _ _ (hHeld.2.2.2.2.2.1))).trans (hHeld.2.2.2.2.2.1)
                    have HS6_ := (hb.cell (World.block_lt_of_cell? _ _ (hHeld.2.2.2.2.2.2.1))).trans (hHeld.2.2.2.2.2.2.1)
                    have HS7_ := (hb.cell (World.block_lt_of_cell? _ _ (hHeld.2.2.2.2.2.2.2))).trans (hHeld.2.2.2.2.2.2.2)
                    clear hg_ hnew_
                    (first | rw [← Ny237.out] at ho41 | (simp only [Int.reduceToNat] at ho41; rw [← Ny237.out] at ho41))
                    have n0_ := Aside0.mk (Kd.R_elder' (by (with_reducible repeat (first | apply Kd.R_alloc | apply Kd.R_drewN | apply Kd.R_drew)); exact HO_7.out) (Kd.R_base ho41) hb)
                    have n1_ := Aside0.mk (Kd.R_elder' (by (with_reducible repeat (first | apply Kd.R_alloc | apply Kd.R_drewN | apply Kd.R_drew)); exact HO_8.out) (Kd.R_base ho41) hb)
                    have n2_ := Aside0.mk (Kd.V_elder' (by (with_reducible repeat (first | apply Kd.V_alloc | apply Kd.V_drewN | apply Kd.V_drew)); exact HO232.out) (Kd.R_base ho41) hb)
                    have n3_ := Aside0.mk (Kd.V_elder' (by (with_reducible repeat (first | apply Kd.V_alloc | apply Kd.V_drewN | apply Kd.V_drew)); exact HO247.out) (Kd.R_base ho41) hb)
                    have n4_ := Aside0.mk (Kd.R_elder' (by (with_reducible repeat (first | apply Kd.R_alloc | apply Kd.R_drewN | apply Kd.R_drew)); exact HO235.out) (Kd.R_base ho41) hb)
                    have n5_ := Aside0.mk (Kd.R_lower (Kd.R_newB (Kd.R_new' (Kd.R_new' (Kd.R_new' ho41 (Kd.R_lt (by (with_reducible repeat (first | apply Kd.R_alloc | apply Kd.R_drewN | apply Kd.R_drew)); exact HO_7.out))) (Kd.R_lt (by (with_reducible repeat (first | apply Kd.R_alloc | apply Kd.R_drewN | apply Kd.R_drew)); exact HO_8.out))) (Kd.R_lt (by (with_reducible repeat (first | apply Kd.R_alloc | apply Kd.R_drewN | apply Kd.R_drew)); exact HO235.out))) (g := gb219) (o := .cells #[.int .i64 a2_0, .int .i64 a2_1, .bool a2_2, .int .i64 a2_3, .string a2_4, .bool a2_5, .int .i64 a2_6, .string a2_7] 38 (0, 0)) (by (with_reducible repeat (first | refine blk_drewN ?_ _ | refine blk_drew ?_ | refine blk_alloc ?_ _)); exact BK219.out)) (below_size (by with_reducible repeat first | exact HB.out | apply below_alloc | apply pw_below_drewN | apply below_drew1 | refine below_set ?_ GE219.out)))
                    have n6_ := Aside0.mk (blk_below (g := gb219) (o := .cells #[.int .i64 a2_0, .int .i64 a2_1, .bool a2_2, .int .i64 a2_3, .string a2_4, .bool a2_5, .int .i64 a2_6, .string a2_7] 38 (0, 0)) (by (with_reducible repeat (first | refine blk_drewN ?_ _ | refine blk_drew ?_ | refine blk_alloc ?_ _)); exact BK219.out) hb)
                    have n7_ := Aside0.mk (below_step (by with_reducible repeat first | exact HB.out | apply below_alloc | apply pw_below_drewN | apply below_drew1 | refine below_set ?_ GE219.out) hb)
                    clear HO_7
                    clear HO_8
                    clear HO232
                    clear HO247
                    clear HO235
                    clear BK219
                    clear HB
                    have HO_7 := n0_
                    have HO_8 := n1_
                    have HO232 := n2_
                    have HO247 := n3_
                    have HO235 := n4_
                    have HO239 := n5_
                    have BK219 := n6_
                    have HB := n7_
                    clear n0_ n1_ n2_ n3_ n4_ n5_ n6_ n7_
                    clear hb ho41
                    refine hK.out _ _ ⟨HS0_, HS1_, HS2_, HS3_, HS4_, HS5_, HS6_, HS7_⟩ (fun hHeld => ?_)
                    clear hK K
                    refine norm_ (a' := ?_) ?_ ?_
                    rotate_left
                    ·show Act.put _ (some 55) _ = _
                     simp only [Act.put, List.setIfInBounds_toArray, List.set_cons_zero, List.set_cons_succ, i64_w, i32_w]
                     rfl
                    exact norm_ (by simp only [putAll, Act.put, List.setIfInBounds_toArray, List.set_cons_zero, List.set_cons_succ]) (hCont (v234, v238) _ ⟨hHeld, (by (with_reducible repeat (first | apply Kd.V_alloc | apply Kd.V_drewN | apply Kd.V_drew)); exact Kd.V_mono HO232.out (fun _ hk => ⟨hk.1.2, ⟨hk.2, ⟨hk.1.1.1, hk.1.1.2⟩⟩⟩)), (by (with_reducible repeat (first | apply Kd.R_alloc | apply Kd.R_drewN | apply Kd.R_drew)); exact Kd.R_mono HO235.out (fun _ hk => ⟨hk.2, ⟨hk.1.1, ⟨hk.1.2.1, hk.1.2.2⟩⟩⟩)), (by (with_reducible repeat (first | apply Kd.R_alloc | apply Kd.R_drewN | apply Kd.R_drew)); exact Kd.R_mono HO239.out (fun _ hk => ⟨hk.1.2, ⟨hk.1.1.1.2, ⟨hk.1.1.2, hk.2⟩⟩⟩)), (by (with_reducible repeat (first | apply Kd.V_alloc | apply Kd.V_drewN | apply Kd.V_drew)); exact Kd.V_mono HO247.out (fun _ hk => ⟨hk.1.2, ⟨hk.2, ⟨hk.1.1.1, hk.1.1.2⟩⟩⟩)), (by (with_reducible repeat (first | apply Kd.R_alloc | apply Kd.R_drewN | apply Kd.R_drew)); exact Kd.R_mono HO_7.out (fun _ hk => ⟨hk.1.2, ⟨hk.2, ⟨hk.1.1.1, hk.1.1.2⟩⟩⟩)), (by (with_reducible repeat (first | apply Kd.R_alloc | apply Kd.R_drewN | apply Kd.R_drew)); exact Kd.R_mono HO_8.out (fun _ hk => ⟨hk.1.2, ⟨hk.2, ⟨hk.1.1.1, hk.1.1.2⟩⟩⟩)), (by (with_reducible repeat (first | refine blk_drewN ?_ _ | refine blk_drew ?_ | refine blk_alloc ?_ _)); exact BK219.out), (by with_reducible repeat first | exact HB.out | apply below_alloc | apply pw_below_drewN | apply below_drew1 | refine below_set ?_ GE219.out)⟩)
                   ·skip
                    refine Kd.R_lit_step k38 _ 38 ?hg (N := 55) ?hd (xs := ([(⟨(rd_T38 t220 x9_1).f0, (rd_T38 t220 x9_1).f1, (⟨(rd_T38 t220 x9_1).f2.f0, (rd_T38 t220 x9_1).f2.f1, (rd_T38 t220 x9_1).f2.f2⟩ : S36), (⟨(rd_T38 t220 x9_1).f3.f0, (rd_T38 t220 x9_1).f3.f1, (rd_T38 t220 x9_1).f3.f2⟩ : S36)⟩ : S38)] : List (S38))) (inner := [.int .i64 ((rd_T38 t220 x9_1).f0), .int .i64 ((rd_T38 t220 x9_1).f1), .bool ((rd_T38 t220 x9_1).f2.f0), .int .i64 ((rd_T38 t220 x9_1).f2.f1), .string ((rd_T38 t220 x9_1).f2.f2), .bool ((rd_T38 t220 x9_1).f3.f0), .int .i64 ((rd_T38 t220 x9_1).f3.f1), .string ((rd_T38 t220 x9_1).f3.f2)]) (ok := fun _ => True) (okp := fun _ => True) ?hr ?hp (fun _ hk => hk) trivial (Below.refl _ _) (Nat.le_refl _) (by simp) ?_; (case hd => rfl); (case hg => rfl); (case hr => first | (go_simp; done) | (go_simp; rfl)); (case hp => exact (Reps.c8 (show Kd.M k38 _ _ _ (⟨(rd_T38 t220 x9_1).f0, (rd_T38 t220 x9_1).f1, (⟨(rd_T38 t220 x9_1).f2.f0, (rd_T38 t220 x9_1).f2.f1, (rd_T38 t220 x9_1).f2.f2⟩ : S36), (⟨(rd_T38 t220 x9_1).f3.f0, (rd_T38 t220 x9_1).f3.f1, (rd_T38 t220 x9_1).f3.f2⟩ : S36)⟩ : S38) [.int .i64 ((rd_T38 t220 x9_1).f0), .int .i64 ((rd_T38 t220 x9_1).f1), .bool ((rd_T38 t220 x9_1).f2.f0), .int .i64 ((rd_T38 t220 x9_1).f2.f1), .string ((rd_T38 t220 x9_1).f2.f2), .bool ((rd_T38 t220 x9_1).f3.f0), .int .i64 ((rd_T38 t220 x9_1).f3.f1), .string ((rd_T38 t220 x9_1).f3.f2)] from (k38_mkM _ _ _ (⟨(rd_T38 t220 x9_1).f0, (rd_T38 t220 x9_1).f1, (⟨(rd_T38 t220 x9_1).f2.f0, (rd_T38 t220 x9_1).f2.f1, (rd_T38 t220 x9_1).f2.f2⟩ : S36), (⟨(rd_T38 t220 x9_1).f3.f0, (rd_T38 t220 x9_1).f3.f1, (rd_T38 t220 x9_1).f3.f2⟩ : S36)⟩ : S38) )) (Reps.none _ _)))
                    intro v238 w39 ho40 hb hg_ hnew_
                    have HS0_ := (hb.cell (World.block_lt_of_cell? _ _ (hHeld.1))).trans (hHeld.1)
                    have HS1_ := (hb.cell (World.block_lt_of_cell? _ _ (hHeld.2.1))).trans (hHeld.2.1)
                    have HS2_ := (hb.cell (World.block_lt_of_cell? _ _ (hHeld.2.2.1))).trans (hHeld.2.2.1)
                    have HS3_ := (hb.cell (World.block_lt_of_cell? _ _ (hHeld.2.2.2.1))).trans (hHeld.2.2.2.1)
                    have HS4_ := (hb.cell (World.block_lt_of_cell? _ _ (hHeld.2.2.2.2.1))).trans (hHeld.2.2.2.2.1)
                    have HS5_ := (hb.cell (World.block_lt_of_cell? _ _ (hHeld.2.2.2.2.2.1))).trans (hHeld.2.2.2.2.2.1)
                    have HS6_ := (hb.cell (World.block_lt_of_cell? _ _ (hHeld.2.2.2.2.2.2.1))).trans (hHeld.2.2.2.2.2.2.1)
                    have HS7_ := (hb.cell (World.block_lt_of_cell? _ _ (hHeld.2.2.2.2.2.2.2))).trans (hHeld.2.2.2.2.2.2.2)
                    clear hg_ hnew_
                    (first | rw [← Ny237.out] at ho40 | (simp only [Int.reduceToNat] at ho40; rw [← Ny237.out] at ho40))
                    have n0_ := Aside0.mk (Kd.R_elder' (by (with_reducible repeat (first | apply Kd.R_alloc | apply Kd.R_drewN | apply Kd.R_drew)); exact HO_7.out) (Kd.R_base ho40) hb)
                    have n1_ := Aside0.mk (Kd.R_elder' (by (with_reducible repeat (first | apply Kd.R_alloc | apply Kd.R_drewN | apply Kd.R_drew)); exact HO_8.out) (Kd.R_base ho40) hb)
                    have n2_ := Aside0.mk (Kd.V_elder' (by (with_reducible repeat (first | apply Kd.V_alloc | apply Kd.V_drewN | apply Kd.V_drew)); exact HO232.out) (Kd.R_base ho40) hb)
                    have n3_ := Aside0.mk (Kd.V_elder' (by (with_reducible repeat (first | apply Kd.V_alloc | apply Kd.V_drewN | apply Kd.V_drew)); exact HO247.out) (Kd.R_base ho40) hb)
                    have n4_ := Aside0.mk (Kd.R_lower (Kd.R_newB (Kd.R_new' (Kd.R_new' ho40 (Kd.R_lt (by (with_reducible repeat (first | apply Kd.R_alloc | apply Kd.R_drewN | apply Kd.R_drew)); exact HO_7.out))) (Kd.R_lt (by (with_reducible repeat (first | apply Kd.R_alloc | apply Kd.R_drewN | apply Kd.R_drew)); exact HO_8.out))) (g := gb219) (o := .cells #[.int .i64 a2_0, .int .i64 a2_1, .bool a2_2, .int .i64 a2_3, .string a2_4, .bool a2_5, .int .i64 a2_6, .string a2_7] 38 (0, 0)) (by (with_reducible repeat (first | refine blk_drewN ?_ _ | refine blk_drew ?_ | refine blk_alloc ?_ _)); exact BK219.out)) (below_size (by with_reducible repeat first | exact HB.out | apply below_alloc | apply pw_below_drewN | apply below_drew1 | refine below_set ?_ GE219.out)))
                    have n5_ := Aside0.mk (blk_below (g := gb219) (o := .cells #[.int .i64 a2_0, .int .i64 a2_1, .bool a2_2, .int .i64 a2_3, .string a2_4, .bool a2_5, .int .i64 a2_6, .string a2_7] 38 (0, 0)) (by (with_reducible repeat (first | refine blk_drewN ?_ _ | refine blk_drew ?_ | refine blk_alloc ?_ _)); exact BK219.out) hb)
                    have n6_ := Aside0.mk (below_step (by with_reducible repeat first | exact HB.out | apply below_alloc | apply pw_below_drewN | apply below_drew1 | refine below_set ?_ GE219.out) hb)
                    clear HO_7
                    clear HO_8
                    clear HO232
                    clear HO247
                    clear BK219
                    clear HB
                    have HO_7 := n0_
                    have HO_8 := n1_
                    have HO232 := n2_
                    have HO247 := n3_
                    have HO239 := n4_
                    have BK219 := n5_
                    have HB := n6_
                    clear n0_ n1_ n2_ n3_ n4_ n5_ n6_
                    clear hb ho40
                    refine hK.out _ _ ⟨HS0_, HS1_, HS2_, HS3_, HS4_, HS5_, HS6_, HS7_⟩ (fun hHeld => ?_)
                    clear hK K
                    refine norm_ (a' := ?_) ?_ ?_
                    rotate_left
                    ·show Act.put _ (some 55) _ = _
                     simp only [Act.put, List.setIfInBounds_toArray, List.set_cons_zero, List.set_cons_succ, i64_w, i32_w]
                     rfl
                    refine one_ (i := 3) (N := some 50) #[true, true, true, true, true, true, true, true, true, false, true, true, true, false, false] rfl rfl (one_of HT_.out (by kernel_rfl)) (by decide) (fun K hK => ?_)
                    refine Kd.R_append_rows_step k38 (w0 := w) w.heap.size (by rfl) (.const (.slice none 0 0)) (.tmp 49) 22 38 (.agg #[(.int .i64 0), (.int .i64 0), (.bool false), (.int .i64 0), (.string ⟨#[]⟩), (.bool false), (.int .i64 0), (.string ⟨#[]⟩)]) 80 rfl Try.underlying22 info38 rfl (by decide) (by omega) (.slice none 0 0) ([] : List (S38)) y228 _ _ _ (fun k_ => some k_ ≠ (.slice (some ad223) t220.length co11 : Value).ownBlock ∧ some k_ ≠ (.slice Ao14 x8_1.length co14 : Value).ownBlock ∧ some k_ ≠ (v238 : Value).ownBlock ∧ k_ ≠ gb219) (fun _ => False) rfl rfl ?aO ?aR (fun _ _ h => h) (fun _ h => h.elim) ?aF ?aB ?aS ?aL ?_
                    (case aR => repeat (first | exact (Kd.V_reads' HO232.out).2.2 | (with_reducible refine Kd.C_alloc ?_ _) | (with_reducible refine Kd.C_drewN ?_ _) | (with_reducible refine Kd.C_drew ?_)))
                    (case aB => exact (by with_reducible repeat first | exact HB.out | apply below_alloc | apply pw_below_drewN | apply below_drew1 | refine below_set ?_ GE219.out))
                    (case aF => exact (fun k_ hk => ⟨Kd.fresh' (Kd.R_lt (by (with_reducible repeat (first | apply Kd.R_alloc | apply Kd.R_drewN | apply Kd.R_drew)); exact HO_7.out)) k_ hk, Kd.fresh' (Kd.R_lt (by (with_reducible repeat (first | apply Kd.R_alloc | apply Kd.R_drewN | apply Kd.R_drew)); exact HO_8.out)) k_ hk, Kd.fresh' (Kd.R_lt (by (with_reducible repeat (first | apply Kd.R_alloc | apply Kd.R_drewN | apply Kd.R_drew)); exact HO239.out)) k_ hk, Kd.freshB (g := gb219) (o := .cells #[.int .i64 a2_0, .int .i64 a2_1, .bool a2_2, .int .i64 a2_3, .string a2_4, .bool a2_5, .int .i64 a2_6, .string a2_7] 38 (0, 0)) (by (with_reducible repeat (first | refine blk_drewN ?_ _ | refine blk_drew ?_ | refine blk_alloc ?_ _)); exact BK219.out) k_ hk⟩))
                    (case aO => exact ((Kd.R_nil _ _ _ _ (fun k_ => some k_ ≠ (.slice (some ad223) t220.length co11 : Value).ownBlock ∧ some k_ ≠ (.slice Ao14 x8_1.length co14 : Value).ownBlock ∧ some k_ ≠ (v238 : Value).ownBlock ∧ k_ ≠ gb219))))
                    (case aS => exact (below_size (by with_reducible repeat first | exact HB.out | apply below_alloc | apply pw_below_drewN | apply below_drew1 | refine below_set ?_ GE219.out)))
                    (case aL => have := LMc29.out; omega)
                    intro v234 w41 ho hb hg hat
                    (first | have HS0_ := cell_grown hg (hHeld.1) (by simp [Value.ownBlock]) | have HS0_ := cell_grown hg (cell_unalloc (hHeld.1) (World.block_lt_of_cell? _ _ (hHeld.1))) (by simp [Value.ownBlock]))
                    (first | have HS1_ := cell_grown hg (hHeld.2.1) (by simp [Value.ownBlock]) | have HS1_ := cell_grown hg (cell_unalloc (hHeld.2.1) (World.block_lt_of_cell? _ _ (hHeld.2.1))) (by simp [Value.ownBlock]))
                    (first | have HS2_ := cell_grown hg (hHeld.2.2.1) (by simp [Value.ownBlock]) | have HS2_ := cell_grown hg (cell_unalloc (hHeld.2.2.1) (World.block_lt_of_cell? _ _ (hHeld.2.2.1))) (by simp [Value.ownBlock]))
                    (first | have HS3_ := cell_grown hg (hHeld.2.2.2.1) (by simp [Value.ownBlock]) | have HS3_ := cell_grown hg (cell_unalloc (hHeld.2.2.2.1) (World.block_lt_of_cell? _ _ (hHeld.2.2.2.1))) (by simp [Value.ownBlock]))
                    (first | have HS4_ := cell_grown hg (hHeld.2.2.2.2.1) (by simp [Value.ownBlock]) | have HS4_ := cell_grown hg (cell_unalloc (hHeld.2.2.2.2.1) (World.block_lt_of_cell? _ _ (hHeld.2.2.2.2.1))) (by simp [Value.ownBlock]))
                    (first | have HS5_ := cell_grown hg (hHeld.2.2.2.2.2.1) (by simp [Value.ownBlock]) | have HS5_ := cell_grown hg (cell_unalloc (hHeld.2.2.2.2.2.1) (World.block_lt_of_cell? _ _ (hHeld.2.2.2.2.2.1))) (by simp [Value.ownBlock]))
                    (first | have HS6_ := cell_grown hg (hHeld.2.2.2.2.2.2.1) (by simp [Value.ownBlock]) | have HS6_ := cell_grown hg (cell_unalloc (hHeld.2.2.2.2.2.2.1) (World.block_lt_of_cell? _ _ (hHeld.2.2.2.2.2.2.1))) (by simp [Value.ownBlock]))
                    (first | have HS7_ := cell_grown hg (hHeld.2.2.2.2.2.2.2) (by simp [Value.ownBlock]) | have HS7_ := cell_grown hg (cell_unalloc (hHeld.2.2.2.2.2.2.2) (World.block_lt_of_cell? _ _ (hHeld.2.2.2.2.2.2.2))) (by simp [Value.ownBlock]))
                    rw [← Ny233.out] at ho
                    have n0_ := Aside0.mk (Kd.R_after (Kd.R_apart_nil (by (with_reducible repeat (first | apply Kd.R_alloc | apply Kd.R_drewN | apply Kd.R_drew)); exact HO_7.out)) hg hat)
                    have n1_ := Aside0.mk (Kd.R_after (Kd.R_apart_nil (by (with_reducible repeat (first | apply Kd.R_alloc | apply Kd.R_drewN | apply Kd.R_drew)); exact HO_8.out)) hg hat)
                    have n2_ := Aside0.mk (blk_grown (g := gb219) (o := .cells #[.int .i64 a2_0, .int .i64 a2_1, .bool a2_2, .int .i64 a2_3, .string a2_4, .bool a2_5, .int .i64 a2_6, .string a2_7] 38 (0, 0)) (by (with_reducible repeat (first | refine blk_drewN ?_ _ | refine blk_drew ?_ | refine blk_alloc ?_ _)); exact BK219.out) hg (by simp [Value.ownBlock]))
                    have n3_ := Aside0.mk (Kd.V_afterv (Kd.V_apart_nil (by (with_reducible repeat (first | apply Kd.V_alloc | apply Kd.V_drewN | apply Kd.V_drew)); exact HO232.out)) hg hat)
                    have n4_ := Aside0.mk (Kd.V_afterv (Kd.V_apart_nil (by (with_reducible repeat (first | apply Kd.V_alloc | apply Kd.V_drewN | apply Kd.V_drew)); exact HO247.out)) hg hat)
                    have n5_ := Aside0.mk (Kd.R_after (Kd.R_apart_nil (by (with_reducible repeat (first | apply Kd.R_alloc | apply Kd.R_drewN | apply Kd.R_drew)); exact HO239.out)) hg hat)
                    have n6_ := Aside0.mk (hb)
                    have n7_ := Aside0.mk (ho)
                    clear HO_7
                    clear HO_8
                    clear BK219
                    clear HO232
                    clear HO247
                    clear HO239
                    clear HB
                    have HO_7 := n0_
                    have HO_8 := n1_
                    have BK219 := n2_
                    have HO232 := n3_
                    have HO247 := n4_
                    have HO239 := n5_
                    have HB := n6_
                    have HO235 := n7_
                    clear n0_ n1_ n2_ n3_ n4_ n5_ n6_ n7_
                    clear ho hb hg hat
                    refine hK.out _ _ ⟨HS0_, HS1_, HS2_, HS3_, HS4_, HS5_, HS6_, HS7_⟩ (fun hHeld => ?_)
                    clear hK K
                    refine norm_ (a' := ?_) ?_ ?_
                    rotate_left
                    ·show Act.put _ (some 50) _ = _
                     simp only [Act.put, List.setIfInBounds_toArray, List.set_cons_zero, List.set_cons_succ, i64_w, i32_w]
                     rfl
                    exact norm_ (by simp only [putAll, Act.put, List.setIfInBounds_toArray, List.set_cons_zero, List.set_cons_succ]) (hCont (v234, v238) _ ⟨hHeld, (by (with_reducible repeat (first | apply Kd.V_alloc | apply Kd.V_drewN | apply Kd.V_drew)); exact Kd.V_mono HO232.out (fun _ hk => ⟨hk.2, ⟨hk.1.2, ⟨hk.1.1.1, hk.1.1.2⟩⟩⟩)), (by (with_reducible repeat (first | apply Kd.R_alloc | apply Kd.R_drewN | apply Kd.R_drew)); exact Kd.R_mono HO235.out (fun _ hk => ⟨hk.2.2.1, ⟨hk.1, ⟨hk.2.1, hk.2.2.2⟩⟩⟩)), (by (with_reducible repeat (first | apply Kd.R_alloc | apply Kd.R_drewN | apply Kd.R_drew)); exact Kd.R_mono HO239.out (fun _ hk => ⟨hk.2, ⟨hk.1.1.1.2, ⟨hk.1.1.2, hk.1.2⟩⟩⟩)), (by (with_reducible repeat (first | apply Kd.V_alloc | apply Kd.V_drewN | apply Kd.V_drew)); exact Kd.V_mono HO247.out (fun _ hk => ⟨hk.2, ⟨hk.1.2, ⟨hk.1.1.1, hk.1.1.2⟩⟩⟩)), (by (with_reducible repeat (first | apply Kd.R_alloc | apply Kd.R_drewN | apply Kd.R_drew)); exact Kd.R_mono HO_7.out (fun _ hk => ⟨hk.2, ⟨hk.1.2, ⟨hk.1.1.1, hk.1.1.2⟩⟩⟩)), (by (with_reducible repeat (first | apply Kd.R_alloc | apply Kd.R_drewN | apply Kd.R_drew)); exact Kd.R_mono HO_8.out (fun _ hk => ⟨hk.2, ⟨hk.1.2, ⟨hk.1.1.1, hk.1.1.2⟩⟩⟩)), (by (with_reducible repeat (first | refine blk_drewN ?_ _ | refine blk_drew ?_ | refine blk_alloc ?_ _)); exact BK219.out), (by with_reducible repeat first | exact HB.out | apply below_alloc | apply pw_below_drewN | apply below_drew1 | refine below_set ?_ GE219.out)⟩)
                  rintro ⟨v234, v238⟩ w42 ⟨hS_, h0_, h1_, h2_, h3_, h4_, h5_, h6_, h7_⟩
                  have n0_ : Aside0 (Kd.V k38 38 w42 w.heap.size (fun k_ => some k_ ≠ (v234 : Value).ownBlock ∧ some k_ ≠ (v238 : Value).ownBlock ∧ some k_ ≠ (.slice (some ad223) t220.length co11 : Value).ownBlock ∧ k_ ≠ gb219) (.slice Ao14 y228.length co14) y228) := ⟨h0_⟩
                  have n1_ : Aside0 (Kd.R k38 38 w42 w.heap.size (fun k_ => some k_ ≠ (v238 : Value).ownBlock ∧ some k_ ≠ (.slice (some ad223) t220.length co11 : Value).ownBlock ∧ some k_ ≠ (.slice Ao14 x8_1.length co14 : Value).ownBlock ∧ k_ ≠ gb219) v234 y233) := ⟨h1_⟩
                  have n2_ : Aside0 (Kd.R k38 38 w42 w.heap.size (fun k_ => some k_ ≠ (v234 : Value).ownBlock ∧ some k_ ≠ (.slice (some ad223) t220.length co11 : Value).ownBlock ∧ some k_ ≠ (.slice Ao14 x8_1.length co14 : Value).ownBlock ∧ k_ ≠ gb219) v238 y237) := ⟨h2_⟩
                  have n3_ : Aside0 (Kd.V k38 38 w42 w.heap.size (fun k_ => some k_ ≠ (v234 : Value).ownBlock ∧ some k_ ≠ (v238 : Value).ownBlock ∧ some k_ ≠ (.slice (some ad223) t220.length co11 : Value).ownBlock ∧ k_ ≠ gb219) (.slice A38 y243.length c38) y243) := ⟨h3_⟩
                  have n4_ : Aside0 (Kd.R k38 38 w42 w.heap.size (fun k_ => some k_ ≠ (v234 : Value).ownBlock ∧ some k_ ≠ (v238 : Value).ownBlock ∧ some k_ ≠ (.slice Ao14 x8_1.length co14 : Value).ownBlock ∧ k_ ≠ gb219) (.slice (some ad223) t220.length co11) t220) := ⟨h4_⟩
                  have n5_ : Aside0 (Kd.R k38 38 w42 w.heap.size (fun k_ => some k_ ≠ (v234 : Value).ownBlock ∧ some k_ ≠ (v238 : Value).ownBlock ∧ some k_ ≠ (.slice (some ad223) t220.length co11 : Value).ownBlock ∧ k_ ≠ gb219) (.slice Ao14 x8_1.length co14) x8_1) := ⟨h5_⟩
                  have n6_ : Aside0 (w42.heap[gb219]? = some (.cells #[.int .i64 a2_0, .int .i64 a2_1, .bool a2_2, .int .i64 a2_3, .string a2_4, .bool a2_5, .int .i64 a2_6, .string a2_7] 38 (0, 0))) := ⟨h6_⟩
                  have n7_ : Aside0 (Below w.heap.size w w42) := ⟨h7_⟩
                  clear HO_7
                  clear HO_8
                  clear BK219
                  clear HB
                  clear h0_ h1_ h2_ h3_ h4_ h5_ h6_ h7_
                  have HO232 := n0_
                  have HO235 := n1_
                  have HO239 := n2_
                  have HO247 := n3_
                  have HO_7 := n4_
                  have HO_8 := n5_
                  have BK219 := n6_
                  have HB := n7_
                  clear n0_ n1_ n2_ n3_ n4_ n5_ n6_ n7_
                  have hHeld : w42.cell? (ad223.add ((x9_1).toNat * 8)) = some (.int .i64 ((rd_T38 t220 x9_1).f0)) ∧ w42.cell? ⟨(ad223.add ((x9_1).toNat * 8)).block, (ad223.add ((x9_1).toNat * 8)).off + 1, none⟩ = some (.int .i64 ((rd_T38 t220 x9_1).f1)) ∧ w42.cell? ⟨(ad223.add ((x9_1).toNat * 8)).block, (ad223.add ((x9_1).toNat * 8)).off + 2, none⟩ = some (.bool ((rd_T38 t220 x9_1).f2.f0)) ∧ w42.cell? ⟨(ad223.add ((x9_1).toNat * 8)).block, (ad223.add ((x9_1).toNat * 8)).off + 3, none⟩ = some (.int .i64 ((rd_T38 t220 x9_1).f2.f1)) ∧ w42.cell? ⟨(ad223.add ((x9_1).toNat * 8)).block, (ad223.add ((x9_1).toNat * 8)).off + 4, none⟩ = some (.string ((rd_T38 t220 x9_1).f2.f2)) ∧ w42.cell? ⟨(ad223.add ((x9_1).toNat * 8)).block, (ad223.add ((x9_1).toNat * 8)).off + 5, none⟩ = some (.bool ((rd_T38 t220 x9_1).f3.f0)) ∧ w42.cell? ⟨(ad223.add ((x9_1).toNat * 8)).block, (ad223.add ((x9_1).toNat * 8)).off + 6, none⟩ = some (.int .i64 ((rd_T38 t220 x9_1).f3.f1)) ∧ w42.cell? ⟨(ad223.add ((x9_1).toNat * 8)).block, (ad223.add ((x9_1).toNat * 8)).off + 7, none⟩ = some (.string ((rd_T38 t220 x9_1).f3.f2)) := hS_
                  obtain ⟨Ao44, co44, eo44⟩ := Kd.R_slice HO239.out
                  (first | subst eo44 | (injection eo44 with f1_ f2_ f3_; have f4_ := f1_.symm; have f5_ := f3_.symm; clear f1_ f2_ f3_; subst f4_; subst f5_))
                  refine norm_ (a' := ?_) ?_ ?_
                  rotate_left
                  ·simp only [putAll, Act.put, List.setIfInBounds_toArray, List.set_cons_zero, List.set_cons_succ]
                   rfl
                  refine last_ (i := 9) (N := some 56) #[true, true, true, true, true, true, true, true, true, true, true, true, true, false, false] rfl rfl (one_of HT_.out (by kernel_rfl)) (by decide) (fun K hK => ?_)
                  refine Kd.R_append_rows_step k38 (w0 := w) w.heap.size (by rfl) (.tmp 50) (.tmp 55) 22 38 (.agg #[(.int .i64 0), (.int .i64 0), (.bool false), (.int .i64 0), (.string ⟨#[]⟩), (.bool false), (.int .i64 0), (.string ⟨#[]⟩)]) 80 rfl Try.underlying22 info38 rfl (by decide) (by omega) v234 y233 y237 _ _ _ (fun k_ => some k_ ≠ (.slice (some ad223) t220.length co11 : Value).ownBlock ∧ some k_ ≠ (.slice Ao14 x8_1.length co14 : Value).ownBlock ∧ some k_ ≠ (.slice Ao44 y237.length co44 : Value).ownBlock ∧ k_ ≠ gb219) (fun _ => False) rfl rfl ?aO ?aR (fun _ _ h => h) (fun _ h => h.elim) ?aF ?aB ?aS ?aL ?_
                  (case aR => repeat (first | exact (Kd.R_reads' HO239.out).2.2 | (with_reducible refine Kd.C_alloc ?_ _) | (with_reducible refine Kd.C_drewN ?_ _) | (with_reducible refine Kd.C_drew ?_)))
                  (case aB => exact (by with_reducible repeat first | exact HB.out | apply below_alloc | apply pw_below_drewN | apply below_drew1 | refine below_set ?_ GE219.out))
                  (case aF => exact (fun k_ hk => ⟨Kd.fresh' (Kd.R_lt (by (with_reducible repeat (first | apply Kd.R_alloc | apply Kd.R_drewN | apply Kd.R_drew)); exact HO_7.out)) k_ hk, Kd.fresh' (Kd.R_lt (by (with_reducible repeat (first | apply Kd.R_alloc | apply Kd.R_drewN | apply Kd.R_drew)); exact HO_8.out)) k_ hk, Kd.fresh' (Kd.R_lt (by (with_reducible repeat (first | apply Kd.R_alloc | apply Kd.R_drewN | apply Kd.R_drew)); exact HO239.out)) k_ hk, Kd.freshB (g := gb219) (o := .cells #[.int .i64 a2_0, .int .i64 a2_1, .bool a2_2, .int .i64 a2_3, .string a2_4, .bool a2_5, .int .i64 a2_6, .string a2_7] 38 (0, 0)) (by (with_reducible repeat (first | refine blk_drewN ?_ _ | refine blk_drew ?_ | refine blk_alloc ?_ _)); exact BK219.out) k_ hk⟩))
                  (case aO => exact (by (with_reducible repeat (first | apply Kd.R_alloc | apply Kd.R_drewN | apply Kd.R_drew)); exact Kd.R_mono HO235.out (fun _ hk => ⟨hk.2.1, ⟨hk.2.2.1, ⟨hk.1, hk.2.2.2⟩⟩⟩)))
                  (case aS => exact (below_size (by with_reducible repeat first | exact HB.out | apply below_alloc | apply pw_below_drewN | apply below_drew1 | refine below_set ?_ GE219.out)))
                  (case aL => have := LMc32.out; omega)
                  intro v241 w43 ho hb hg hat
                  rw [← Ny240.out] at ho
                  have n0_ := Aside0.mk (Kd.R_after (ok := (fun k_ => some k_ ≠ (.slice Ao14 x8_1.length co14 : Value).ownBlock ∧ some k_ ≠ (.slice Ao44 y237.length co44 : Value).ownBlock ∧ k_ ≠ gb219)) (by (with_reducible repeat (first | apply Kd.R_alloc | apply Kd.R_drewN | apply Kd.R_drew)); exact Kd.R_mono HO_7.out (fun _ hk => ⟨⟨hk.2.2.1, ⟨hk.2.1, hk.2.2.2⟩⟩, hk.1⟩)) hg hat)
                  have n1_ := Aside0.mk (Kd.R_after (ok := (fun k_ => some k_ ≠ (.slice (some ad223) t220.length co11 : Value).ownBlock ∧ some k_ ≠ (.slice Ao44 y237.length co44 : Value).ownBlock ∧ k_ ≠ gb219)) (by (with_reducible repeat (first | apply Kd.R_alloc | apply Kd.R_drewN | apply Kd.R_drew)); exact Kd.R_mono HO_8.out (fun _ hk => ⟨⟨hk.2.2.1, ⟨hk.2.1, hk.2.2.2⟩⟩, hk.1⟩)) hg hat)
                  have n2_ := Aside0.mk (blk_grown (g := gb219) (o := .cells #[.int .i64 a2_0, .int .i64 a2_1, .bool a2_2, .int .i64 a2_3, .string a2_4, .bool a2_5, .int .i64 a2_6, .string a2_7] 38 (0, 0)) (by (with_reducible repeat (first | refine blk_drewN ?_ _ | refine blk_drew ?_ | refine blk_alloc ?_ _)); exact BK219.out) hg (Kd.R_away HO235.out (fun _ hk => hk.2.2.2)))
                  have n3_ := Aside0.mk (Kd.V_afterv (ok := (fun k_ => some k_ ≠ (.slice (some ad223) t220.length co11 : Value).ownBlock ∧ some k_ ≠ (.slice Ao44 y237.length co44 : Value).ownBlock ∧ k_ ≠ gb219)) (by (with_reducible repeat (first | apply Kd.V_alloc | apply Kd.V_drewN | apply Kd.V_drew)); exact Kd.V_mono HO232.out (fun _ hk => ⟨⟨hk.2.2.1, ⟨hk.2.1, hk.2.2.2⟩⟩, hk.1⟩)) hg hat)
                  have n4_ := Aside0.mk (Kd.V_afterv (ok := (fun k_ => some k_ ≠ (.slice (some ad223) t220.length co11 : Value).ownBlock ∧ some k_ ≠ (.slice Ao44 y237.length co44 : Value).ownBlock ∧ k_ ≠ gb219)) (by (with_reducible repeat (first | apply Kd.V_alloc | apply Kd.V_drewN | apply Kd.V_drew)); exact Kd.V_mono HO247.out (fun _ hk => ⟨⟨hk.2.2.1, ⟨hk.2.1, hk.2.2.2⟩⟩, hk.1⟩)) hg hat)
                  have n5_ := Aside0.mk (Kd.R_after (ok := (fun k_ => some k_ ≠ (.slice (some ad223) t220.length co11 : Value).ownBlock ∧ some k_ ≠ (.slice Ao14 x8_1.length co14 : Value).ownBlock ∧ k_ ≠ gb219)) (by (with_reducible repeat (first | apply Kd.R_alloc | apply Kd.R_drewN | apply Kd.R_drew)); exact Kd.R_mono HO239.out (fun _ hk => ⟨⟨hk.2.1, ⟨hk.2.2.1, hk.2.2.2⟩⟩, hk.1⟩)) hg hat)
                  have n6_ := Aside0.mk (hb)
                  have n7_ := Aside0.mk (ho)
                  clear HO_7
                  clear HO_8
                  clear BK219
                  clear HO232
                  clear HO247
                  clear HO239
                  clear HB
                  clear HO235
                  have HO_7 := n0_
                  have HO_8 := n1_
                  have BK219 := n2_
                  have HO232 := n3_
                  have HO247 := n4_
                  have HO239 := n5_
                  have HB := n6_
                  have HO242 := n7_
                  clear n0_ n1_ n2_ n3_ n4_ n5_ n6_ n7_
                  clear ho hb hg hat
                  refine hK.out _ _ ?_
                  clear hK K
                  refine norm_ (a' := ?_) ?_ ?_
                  rotate_left
                  ·show Act.put _ (some 56) _ = _
                   simp only [Act.put, List.setIfInBounds_toArray, List.set_cons_zero, List.set_cons_succ, i64_w, i32_w]
                   rfl
                  refine last_ (i := 13) (N := some 60) #[true, true, true, true, true, true, true, true, true, true, true, true, true, true, false] rfl rfl (one_of HT_.out (by kernel_rfl)) (by decide) (fun K hK => ?_)
                  refine Kd.R_append_rows_step k38 (w0 := w) w.heap.size (by rfl) (.tmp 56) (.tmp 59) 22 38 (.agg #[(.int .i64 0), (.int .i64 0), (.bool false), (.int .i64 0), (.string ⟨#[]⟩), (.bool false), (.int .i64 0), (.string ⟨#[]⟩)]) 80 rfl Try.underlying22 info38 rfl (by decide) (by omega) v241 y240 y243 _ _ _ (fun k_ => some k_ ≠ (.slice (some ad223) t220.length co11 : Value).ownBlock ∧ some k_ ≠ (.slice Ao14 x8_1.length co14 : Value).ownBlock ∧ some k_ ≠ (.slice Ao44 y237.length co44 : Value).ownBlock ∧ k_ ≠ gb219) (fun _ => False) rfl rfl ?aO ?aR (fun _ _ h => h) (fun _ h => h.elim) ?aF ?aB ?aS ?aL ?_
                  (case aR => repeat (first | exact (Kd.V_reads' HO247.out).2.2 | (with_reducible refine Kd.C_alloc ?_ _) | (with_reducible refine Kd.C_drewN ?_ _) | (with_reducible refine Kd.C_drew ?_)))
                  (case aB => exact (by with_reducible repeat first | exact HB.out | apply below_alloc | apply pw_below_drewN | apply below_drew1 | refine below_set ?_ GE219.out))
                  (case aF => exact (fun k_ hk => ⟨Kd.fresh' (Kd.R_lt (by (with_reducible repeat (first | apply Kd.R_alloc | apply Kd.R_drewN | apply Kd.R_drew)); exact HO_7.out)) k_ hk, Kd.fresh' (Kd.R_lt (by (with_reducible repeat (first | apply Kd.R_alloc | apply Kd.R_drewN | apply Kd.R_drew)); exact HO_8.out)) k_ hk, Kd.fresh' (Kd.R_lt (by (with_reducible repeat (first | apply Kd.R_alloc | apply Kd.R_drewN | apply Kd.R_drew)); exact HO239.out)) k_ hk, Kd.freshB (g := gb219) (o := .cells #[.int .i64 a2_0, .int .i64 a2_1, .bool a2_2, .int .i64 a2_3, .string a2_4, .bool a2_5, .int .i64 a2_6, .string a2_7] 38 (0, 0)) (by (with_reducible repeat (first | refine blk_drewN ?_ _ | refine blk_drew ?_ | refine blk_alloc ?_ _)); exact BK219.out) k_ hk⟩))
                  (case aO => exact (by (with_reducible repeat (first | apply Kd.R_alloc | apply Kd.R_drewN | apply Kd.R_drew)); exact HO242.out))
                  (case aS => exact (below_size (by with_reducible repeat first | exact HB.out | apply below_alloc | apply pw_below_drewN | apply below_drew1 | refine below_set ?_ GE219.out)))
                  (case aL => have := LMc35.out; omega)
                  intro v249 w45 ho hb hg hat
                  rw [← Ny248.out] at ho
                  have n0_ := Aside0.mk (Kd.R_after (ok := (fun k_ => some k_ ≠ (.slice Ao14 x8_1.length co14 : Value).ownBlock ∧ some k_ ≠ (.slice Ao44 y237.length co44 : Value).ownBlock ∧ k_ ≠ gb219)) (by (with_reducible repeat (first | apply Kd.R_alloc | apply Kd.R_drewN | apply Kd.R_drew)); exact HO_7.out) hg hat)
                  have n1_ := Aside0.mk (Kd.R_after (ok := (fun k_ => some k_ ≠ (.slice (some ad223) t220.length co11 : Value).ownBlock ∧ some k_ ≠ (.slice Ao44 y237.length co44 : Value).ownBlock ∧ k_ ≠ gb219)) (by (with_reducible repeat (first | apply Kd.R_alloc | apply Kd.R_drewN | apply Kd.R_drew)); exact HO_8.out) hg hat)
                  have n2_ := Aside0.mk (blk_grown (g := gb219) (o := .cells #[.int .i64 a2_0, .int .i64 a2_1, .bool a2_2, .int .i64 a2_3, .string a2_4, .bool a2_5, .int .i64 a2_6, .string a2_7] 38 (0, 0)) (by (with_reducible repeat (first | refine blk_drewN ?_ _ | refine blk_drew ?_ | refine blk_alloc ?_ _)); exact BK219.out) hg (Kd.R_away HO242.out (fun _ hk => hk.2.2.2)))
                  have n3_ := Aside0.mk (Kd.V_afterv (ok := (fun k_ => some k_ ≠ (.slice (some ad223) t220.length co11 : Value).ownBlock ∧ some k_ ≠ (.slice Ao44 y237.length co44 : Value).ownBlock ∧ k_ ≠ gb219)) (by (with_reducible repeat (first | apply Kd.V_alloc | apply Kd.V_drewN | apply Kd.V_drew)); exact HO232.out) hg hat)
                  have n4_ := Aside0.mk (Kd.V_afterv (ok := (fun k_ => some k_ ≠ (.slice (some ad223) t220.length co11 : Value).ownBlock ∧ some k_ ≠ (.slice Ao44 y237.length co44 : Value).ownBlock ∧ k_ ≠ gb219)) (by (with_reducible repeat (first | apply Kd.V_alloc | apply Kd.V_drewN | apply Kd.V_drew)); exact HO247.out) hg hat)
                  have n5_ := Aside0.mk (Kd.R_after (ok := (fun k_ => some k_ ≠ (.slice (some ad223) t220.length co11 : Value).ownBlock ∧ some k_ ≠ (.slice Ao14 x8_1.length co14 : Value).ownBlock ∧ k_ ≠ gb219)) (by (with_reducible repeat (first | apply Kd.R_alloc | apply Kd.R_drewN | apply Kd.R_drew)); exact HO239.out) hg hat)
                  have n6_ := Aside0.mk (hb)
                  have n7_ := Aside0.mk (ho)
                  clear HO_7
                  clear HO_8
                  clear BK219
                  clear HO232
                  clear HO247
                  clear HO239
                  clear HB
                  clear HO242
                  have HO_7 := n0_
                  have HO_8 := n1_
                  have BK219 := n2_
                  have HO232 := n3_
                  have HO247 := n4_
                  have HO239 := n5_
                  have HB := n6_
                  have HO250 := n7_
                  clear n0_ n1_ n2_ n3_ n4_ n5_ n6_ n7_
                  clear ho hb hg hat
                  refine hK.out _ _ ?_
                  clear hK K
                  refine norm_ (a' := ?_) ?_ ?_
                  rotate_left
                  ·show Act.put _ (some 60) _ = _
                   simp only [Act.put, List.setIfInBounds_toArray, List.set_cons_zero, List.set_cons_succ, i64_w, i32_w]
                   rfl
                  refine pure_ (i := 14) (N := some 8) (v := ?_) (a' := ?_) #[true, true, true, true, true, true, true, true, true, true, true, true, true, true, true] rfl rfl (any_of HT_.out (by kernel_rfl)) (fun _ _ _ h => h) (Or.inl ⟨by rfl, ?_⟩) ?_ ?_
                  rotate_left
                  ·intro w'
                   go_simp
                   with_reducible rfl
                  rotate_left
                  ·simp only [Act.put, List.setIfInBounds_toArray, List.set_cons_zero, List.set_cons_succ, i64_w, i32_w]
                   rfl
                  refine done_ (done_of HT_.out (by kernel_rfl)) ?_
                  try go_wp2
                  go_roundg kj14
                  case measure => have := HK1.out; have := HK2.out; have := HJ14.out; omega
                  case rel => exact ⟨(y248), (wrap64 (x9_1 + 1)), (by first | rfl | (simp; done) | (simp [*]; done)), H', ⟨by have := HK1.out; have := HK2.out; have := HJ14.out; omega⟩, ⟨by (with_reducible repeat (first | apply Kd.R_alloc | apply Kd.R_drewN | apply Kd.R_drew)); exact Kd.R_mono HO_7.out (fun _ hk => ⟨hk.2, hk.1.2.2⟩)⟩, ⟨by (with_reducible repeat (first | apply Kd.R_alloc | apply Kd.R_drewN | apply Kd.R_drew)); exact Kd.R_mono HO250.out (fun _ hk => ⟨hk.1, hk.2.2.2⟩)⟩, ⟨by (with_reducible repeat (first | refine blk_drewN ?_ _ | refine blk_drew ?_ | refine blk_alloc ?_ _)); exact BK219.out⟩, ⟨by repeat (first | (with_reducible first | exact HB.out | apply below_alloc | apply pw_below_drewN | apply below_drew1 | refine below_set ?_ GE219.out) | exact HB.out)⟩⟩
                 ·rw [if_neg c35] at H
                  exact absurd H (by simp)
                ·rw [if_neg c32] at H
                 exact absurd H (by simp)
               ·rw [if_neg c31] at H
                exact absurd H (by simp)
              ·rw [if_neg c30] at H
               exact absurd H (by simp)
             ·rw [if_neg c29] at H
              exact absurd H (by simp)
            ·rw [if_neg c28] at H
             exact absurd H (by simp)
           ·rw [if_neg c27] at H
            exact absurd H (by simp)
     ·replace c10 := Bool.eq_false_iff.mpr c10
      subst c10
      have H1 : (tithebarnref17_below.l0 k1 t220 x8_1 (wrap64 (x9_1 + 1)) a2_0 a2_1 a2_2 a2_3 a2_4 a2_5 a2_6 a2_7) = some r := by rw [if_neg (show ¬ (false = true) by decide)] at H; exact H
      clear H
      have H := H1
      clear H1
      have H' := Aside0.mk H
      clear H
      obtain ⟨Ao46, co46, eo46⟩ := Kd.R_slice HO_7.out
      subst eo46
      try go_wp2
      have n0_ := Aside0.mk (Kd.R_drew HO_7.out)
      have n1_ := Aside0.mk (Kd.R_drew HO_8.out)
      have n2_ := Aside0.mk (blk_drew BK219.out)
      have n3_ := Aside0.mk (below_drew1 HB.out)
      clear HO_7
      clear HO_8
      clear BK219
      clear HB
      have HO_7 := n0_
      have HO_8 := n1_
      have BK219 := n2_
      have HB := n3_
      clear n0_ n1_ n2_ n3_
      have p223 : 0 ≤ (x9_1 : Int) := of_decide_eq_true (by with_reducible assumption)
      have q223 : x9_1 < (t220.length : Int) := of_decide_eq_true (by with_reducible assumption)
      obtain ⟨ad223, e223, hx223_0, hx223_1, hx223_2, hx223_3, hx223_4, hx223_5, hx223_6, hx223_7⟩ := at_T38 (Kd.R_reads' HO_7.out).2.2 x9_1 p223 q223
      cases e223
      replace p223 := eq_true p223
      replace q223 := eq_true q223
      refine start_ (n := 7) (S := fun w' => w'.cell? ⟨gb219, 0, none⟩ = some (.int .i64 a2_0) ∧ w'.cell? ⟨gb219, 1, none⟩ = some (.int .i64 a2_1) ∧ w'.cell? ⟨gb219, 2, none⟩ = some (.bool a2_2) ∧ w'.cell? ⟨gb219, 3, none⟩ = some (.int .i64 a2_3) ∧ w'.cell? ⟨gb219, 4, none⟩ = some (.string a2_4) ∧ w'.cell? ⟨gb219, 5, none⟩ = some (.bool a2_5) ∧ w'.cell? ⟨gb219, 6, none⟩ = some (.int .i64 a2_6) ∧ w'.cell? ⟨gb219, 7, none⟩ = some (.string a2_7) ∧ w'.cell? (ad223.add ((x9_1).toNat * 8)) = some (.int .i64 ((rd_T38 t220 x9_1).f0)) ∧ w'.cell? ⟨(ad223.add ((x9_1).toNat * 8)).block, (ad223.add ((x9_1).toNat * 8)).off + 1, none⟩ = some (.int .i64 ((rd_T38 t220 x9_1).f1)) ∧ w'.cell? ⟨(ad223.add ((x9_1).toNat * 8)).block, (ad223.add ((x9_1).toNat * 8)).off + 2, none⟩ = some (.bool ((rd_T38 t220 x9_1).f2.f0)) ∧ w'.cell? ⟨(ad223.add ((x9_1).toNat * 8)).block, (ad223.add ((x9_1).toNat * 8)).off + 3, none⟩ = some (.int .i64 ((rd_T38 t220 x9_1).f2.f1)) ∧ w'.cell? ⟨(ad223.add ((x9_1).toNat * 8)).block, (ad223.add ((x9_1).toNat * 8)).off + 4, none⟩ = some (.string ((rd_T38 t220 x9_1).f2.f2)) ∧ w'.cell? ⟨(ad223.add ((x9_1).toNat * 8)).block, (ad223.add ((x9_1).toNat * 8)).off + 5, none⟩ = some (.bool ((rd_T38 t220 x9_1).f3.f0)) ∧ w'.cell? ⟨(ad223.add ((x9_1).toNat * 8)).block, (ad223.add ((x9_1).toNat * 8)).off + 6, none⟩ = some (.int .i64 ((rd_T38 t220 x9_1).f3.f1)) ∧ w'.cell? ⟨(ad223.add ((x9_1).toNat * 8)).block, (ad223.add ((x9_1).toNat * 8)).off + 7, none⟩ = some (.string ((rd_T38 t220 x9_1).f3.f2))) (ds := []) #[false, false, false, false, false, false, false] (by kernel_rfl) rfl rfl ⟨(blk_cell BK219.out 0).trans rfl, (blk_cell BK219.out 1).trans rfl, (blk_cell BK219.out 2).trans rfl, (blk_cell BK219.out 3).trans rfl, (blk_cell BK219.out 4).trans rfl, (blk_cell BK219.out 5).trans rfl, (blk_cell BK219.out 6).trans rfl, (blk_cell BK219.out 7).trans rfl, hx223_0, hx223_1, hx223_2, hx223_3, hx223_4, hx223_5, hx223_6, hx223_7⟩ (fun hHeld => ?_)
      generalize wr.drew = w47 at HO_7 HO_8 BK219 HB hx223_0 hx223_1 hx223_2 hx223_3 hx223_4 hx223_5 hx223_6 hx223_7 hHeld ⊢
      refine pure_ (i := 0) (N := some 20) (v := ?_) (a' := ?_) #[true, false, false, false, false, false, false] rfl rfl (by kernel_rfl) (fun _ _ _ h => h) (Or.inl ⟨by rfl, ?_⟩) ?_ ?_
      rotate_left
      ·intro w'
       go_simp
       with_reducible rfl
      rotate_left
      ·simp only [Act.put, List.setIfInBounds_toArray, List.set_cons_zero, List.set_cons_succ, i64_w, i32_w]
       rfl
      refine pure_ (i := 1) (N := some 21) (v := ?_) (a' := ?_) #[true, true, false, false, false, false, false] rfl rfl (by kernel_rfl) (fun _ _ _ h => h) (Or.inl ⟨by rfl, ?_⟩) ?_ ?_
      rotate_left
      ·intro w'
       go_simp
       with_reducible rfl
      rotate_left
      ·simp only [Act.put, List.setIfInBounds_toArray, List.set_cons_zero, List.set_cons_succ, i64_w, i32_w]
       rfl
      refine pure_ (i := 2) (N := some 22) (v := ?_) (a' := ?_) #[true, true, true, false, false, false, false] rfl rfl (by kernel_rfl) (fun _ _ _ h => h) (Or.inl ⟨by rfl, ?_⟩) ?_ ?_
      rotate_left
      ·intro w'
       go_simp
       with_reducible rfl
      rotate_left
      ·simp only [Act.put, List.setIfInBounds_toArray, List.set_cons_zero, List.set_cons_succ, i64_w, i32_w]
       rfl
      refine take_ (i := 3) (N := some 23) (v := ?_) (a' := ?_) #[true, true, true, true, false, false, false] rfl rfl (by kernel_rfl) (fun _ _ _ h => h) (Or.inl ⟨by rfl, ?_⟩) hHeld ?_ ?_
      rotate_left
      ·rintro w' ⟨s0, s1, s2, s3, s4, s5, s6, s7, s8, s9, s10, s11, s12, s13, s14, s15⟩
       go_simp
       with_reducible rfl
      rotate_left
      ·simp only [Act.put, List.setIfInBounds_toArray, List.set_cons_zero, List.set_cons_succ, i64_w, i32_w]
       rfl
      refine take_ (i := 4) (N := some 24) (v := ?_) (a' := ?_) #[true, true, true, true, true, false, false] rfl rfl (by kernel_rfl) (fun _ _ _ h => h) (Or.inl ⟨by rfl, ?_⟩) hHeld ?_ ?_
      rotate_left
      ·rintro w' ⟨s0, s1, s2, s3, s4, s5, s6, s7, s8, s9, s10, s11, s12, s13, s14, s15⟩
       go_simp
       with_reducible rfl
      rotate_left
      ·simp only [Act.put, List.setIfInBounds_toArray, List.set_cons_zero, List.set_cons_succ, i64_w, i32_w]
       rfl
      refine one_ (i := 5) (N := some 25) #[true, true, true, true, true, true, false] rfl rfl (by kernel_rfl) (by decide) (fun K hK => ?_)
      refine goes_ Try.func20 (by kernel_rfl) rfl #[.agg #[.int .i64 ((rd_T38 t220 x9_1).f0), .int .i64 ((rd_T38 t220 x9_1).f1), .bool ((rd_T38 t220 x9_1).f2.f0), .int .i64 ((rd_T38 t220 x9_1).f2.f1), .string ((rd_T38 t220 x9_1).f2.f2), .bool ((rd_T38 t220 x9_1).f3.f0), .int .i64 ((rd_T38 t220 x9_1).f3.f1), .string ((rd_T38 t220 x9_1).f3.f2)], .agg #[.int .i64 a2_0, .int .i64 a2_1, .bool a2_2, .int .i64 a2_3, .string a2_4, .bool a2_5, .int .i64 a2_6, .string a2_7]] (by rfl) rfl rfl (by (try simp only [List.map_toArray, List.map_cons, List.map_nil]); first | done | rfl | (simp only [List.length_drop, List.length_take]; rfl)) ?_
      with_reducible refine (tithebarnref17_Overlap.calls ((rd_T38 t220 x9_1).f0) ((rd_T38 t220 x9_1).f1) ((rd_T38 t220 x9_1).f2.f0) ((rd_T38 t220 x9_1).f2.f1) ((rd_T38 t220 x9_1).f2.f2) ((rd_T38 t220 x9_1).f3.f0) ((rd_T38 t220 x9_1).f3.f1) ((rd_T38 t220 x9_1).f3.f2) a2_0 a2_1 a2_2 a2_3 a2_4 a2_5 a2_6 a2_7 false _ A9.out).mono ?_
      rintro e w48 ⟨rfl, hb⟩
      have HS8_ := (hb.cell (World.block_lt_of_cell? _ _ (hHeld.2.2.2.2.2.2.2.2.1))).trans (hHeld.2.2.2.2.2.2.2.2.1)
      have HS9_ := (hb.cell (World.block_lt_of_cell? _ _ (hHeld.2.2.2.2.2.2.2.2.2.1))).trans (hHeld.2.2.2.2.2.2.2.2.2.1)
      have HS10_ := (hb.cell (World.block_lt_of_cell? _ _ (hHeld.2.2.2.2.2.2.2.2.2.2.1))).trans (hHeld.2.2.2.2.2.2.2.2.2.2.1)
      have HS11_ := (hb.cell (World.block_lt_of_cell? _ _ (hHeld.2.2.2.2.2.2.2.2.2.2.2.1))).trans (hHeld.2.2.2.2.2.2.2.2.2.2.2.1)
      have HS12_ := (hb.cell (World.block_lt_of_cell? _ _ (hHeld.2.2.2.2.2.2.2.2.2.2.2.2.1))).trans (hHeld.2.2.2.2.2.2.2.2.2.2.2.2.1)
      have HS13_ := (hb.cell (World.block_lt_of_cell? _ _ (hHeld.2.2.2.2.2.2.2.2.2.2.2.2.2.1))).trans (hHeld.2.2.2.2.2.2.2.2.2.2.2.2.2.1)
      have HS14_ := (hb.cell (World.block_lt_of_cell? _ _ (hHeld.2.2.2.2.2.2.2.2.2.2.2.2.2.2.1))).trans (hHeld.2.2.2.2.2.2.2.2.2.2.2.2.2.2.1)
      have HS15_ := (hb.cell (World.block_lt_of_cell? _ _ (hHeld.2.2.2.2.2.2.2.2.2.2.2.2.2.2.2))).trans (hHeld.2.2.2.2.2.2.2.2.2.2.2.2.2.2.2)
      refine ⟨_, rfl, ?_⟩
      have n0_ := Aside0.mk (Kd.R_below (by (with_reducible repeat (first | apply Kd.R_alloc | apply Kd.R_drewN | apply Kd.R_drew)); exact HO_7.out) hb)
      have n1_ := Aside0.mk (Kd.R_below (by (with_reducible repeat (first | apply Kd.R_alloc | apply Kd.R_drewN | apply Kd.R_drew)); exact HO_8.out) hb)
      have n2_ := Aside0.mk (blk_below (g := gb219) (o := .cells #[.int .i64 a2_0, .int .i64 a2_1, .bool a2_2, .int .i64 a2_3, .string a2_4, .bool a2_5, .int .i64 a2_6, .string a2_7] 38 (0, 0)) (by (with_reducible repeat (first | refine blk_drewN ?_ _ | refine blk_drew ?_ | refine blk_alloc ?_ _)); exact BK219.out) hb)
      have n3_ := Aside0.mk (below_step (by with_reducible repeat first | exact HB.out | apply below_alloc | apply pw_below_drewN | apply below_drew1 | refine below_set ?_ GE219.out) hb)
      clear HO_7
      clear HO_8
      clear BK219
      clear HB
      have HO_7 := n0_
      have HO_8 := n1_
      have BK219 := n2_
      have HB := n3_
      clear n0_ n1_ n2_ n3_
      (try clear hb)
      (try clear hb2)
      (try clear hk)
      (try clear hi)
      refine hK.out _ _ ⟨(blk_cell BK219.out 0).trans rfl, (blk_cell BK219.out 1).trans rfl, (blk_cell BK219.out 2).trans rfl, (blk_cell BK219.out 3).trans rfl, (blk_cell BK219.out 4).trans rfl, (blk_cell BK219.out 5).trans rfl, (blk_cell BK219.out 6).trans rfl, (blk_cell BK219.out 7).trans rfl, HS8_, HS9_, HS10_, HS11_, HS12_, HS13_, HS14_, HS15_⟩ (fun hHeld => ?_)
      clear hK K
      refine norm_ (a' := ?_) ?_ ?_
      rotate_left
      ·show Act.put _ (some 25) _ = _
       simp only [Act.put, List.setIfInBounds_toArray, List.set_cons_zero, List.set_cons_succ, i64_w, i32_w]
       rfl
      refine pure_ (i := 6) (N := some 26) (v := ?_) (a' := ?_) #[true, true, true, true, true, true, true] rfl rfl (by kernel_rfl) (fun _ _ _ h => h) (Or.inl ⟨by rfl, ?_⟩) ?_ ?_
      rotate_left
      ·intro w'
       go_simp
       with_reducible rfl
      rotate_left
      ·simp only [Act.put, List.setIfInBounds_toArray, List.set_cons_zero, List.set_cons_succ, i64_w, i32_w]
       rfl
      refine done_ (by kernel_rfl) ?_
      try go_wp2
      go_roundg k1
      case measure => have := HK1.out; omega
      case rel => exact ⟨(x8_1), (wrap64 (x9_1 + 1)), (by first | rfl | (simp; done) | (simp [*]; done)), H', ⟨by have := HK1.out; omega⟩, ⟨by (with_reducible repeat (first | apply Kd.R_alloc | apply Kd.R_drewN | apply Kd.R_drew)); exact HO_7.out⟩, ⟨by (with_reducible repeat (first | apply Kd.R_alloc | apply Kd.R_drewN | apply Kd.R_drew)); exact HO_8.out⟩, ⟨by (with_reducible repeat (first | refine blk_drewN ?_ _ | refine blk_drew ?_ | refine blk_alloc ?_ _)); exact BK219.out⟩, ⟨by repeat (first | (with_reducible first | exact HB.out | apply below_alloc | apply pw_below_drewN | apply below_drew1 | refine below_set ?_ GE219.out) | exact HB.out)⟩⟩
    ·rw [if_neg c8] at H
     exact absurd H (by simp)
   ·rw [if_neg c7] at H
    have c7b0 : decide (x9_1 < (t220.length : Int)) = false := decide_eq_false c7
    clear c7
    obtain rfl := Option.some.inj H
    obtain ⟨Ao49, co49, eo49⟩ := Kd.R_slice HO_7.out
    subst eo49
    go_wp2
    go_ret
    exact ⟨_, by first | rfl | (simp [errW_none, errW_some] <;> rfl) | (simp [*, errW_none, errW_some] <;> rfl), by (with_reducible repeat (first | apply Kd.R_alloc | apply Kd.R_drewN | apply Kd.R_drew)); exact Kd.R_mono HO_8.out (fun _ hk => trivial), by repeat (first | (with_reducible first | exact HB.out | apply below_alloc | apply pw_below_drewN | apply below_drew1 | refine below_set ?_ GE219.out) | exact HB.out)⟩

end Go.Proofs.Ytcbgcmaioicdbaa.Pr
