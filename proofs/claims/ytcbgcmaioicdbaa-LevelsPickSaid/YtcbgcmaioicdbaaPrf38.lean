-- printed by xprint.py
import Derived.Test.YtcbgcmaioicdbaaPr0
import Derived.Test.YtcbgcmaioicdbaaPrf23
namespace Go.Proofs.Ytcbgcmaioicdbaa.Pr
open Go.RowKit Go.Proofs.YtcbgcmaioicdbaaW PrintWords PrintLast PrintMore
set_option linter.unusedVariables false
set_option linter.unusedSimpArgs false

/-! ### tithebarnref17_chosen: function 38 -/
mutual
def tithebarnref17_chosen.l0 : Nat → List (S38) → Int → Int → Int → Bool → Int → ByteArray → Bool → Int → ByteArray → Option ((List (S38)))
 | 0, _, _, _, _, _, _, _, _, _, _ => none
 | k + 1, x5, x7, x182000, x182001, x182002, x182003, x182004, x182005, x182006, x182007 => if x7 < (x5.length : Int) then (if 0 ≤ x7 then (if ((rd_T38 x5 x7).f0) < x182000 then (tithebarnref17_chosen.l0 k x5 (wrap64 (x7 + 1)) ((rd_T38 x5 x7).f0) ((rd_T38 x5 x7).f1) ((rd_T38 x5 x7).f2.f0) ((rd_T38 x5 x7).f2.f1) ((rd_T38 x5 x7).f2.f2) ((rd_T38 x5 x7).f3.f0) ((rd_T38 x5 x7).f3.f1) ((rd_T38 x5 x7).f3.f2)) else (tithebarnref17_chosen.l0 k x5 (wrap64 (x7 + 1)) x182000 x182001 x182002 x182003 x182004 x182005 x182006 x182007)) else (none)) else (some (([(⟨x182000, x182001, (⟨x182002, x182003, x182004⟩ : S36), (⟨x182005, x182006, x182007⟩ : S36)⟩ : S38)] : List (S38))))
def tithebarnref17_chosen.l1 : Nat → List (S38) → List (S38) → Int → Option ((List (S38)))
 | 0, _, _, _ => none
 | k + 1, x5, x8, x9 => if x9 < (x5.length : Int) then (tithebarnref17_chosen.l2 k x5 x8 x9 0) else (some x8)
def tithebarnref17_chosen.l2 : Nat → List (S38) → List (S38) → Int → Int → Option ((List (S38)))
 | 0, _, _, _, _ => none
 | k + 1, x5, x8, x9, x10 => if x10 < (x8.length : Int) then (if 0 ≤ x10 then (if 0 ≤ x9 then (if x9 < (x5.length : Int) then (tithebarnref17_chosen.j3 k x5 x8 x9 x10 (decide (((rd_T38 x8 x10).f0) ≥ ((rd_T38 x5 x9).f0)))) else (none)) else (none)) else (none)) else (tithebarnref17_chosen.j3 k x5 x8 x9 x10 false)
def tithebarnref17_chosen.j3 : Nat → List (S38) → List (S38) → Int → Int → Bool → Option ((List (S38)))
 | 0, _, _, _, _, _ => none
 | k + 1, x5, x8, x9, x10, x61 => if x61 = true then (tithebarnref17_chosen.l2 k x5 x8 x9 (wrap64 (x10 + 1))) else (if 0 ≤ x10 then (if x10 ≤ (x8.length : Int) then ((some (x8.take (x10 : Int).toNat : List (S38))).bind fun y189 => (if ([] : List (S38)).length + y189.length < 1759218604441 then ((some (([] : List (S38)) ++ y189 : List (S38))).bind fun y194 => (if 0 ≤ x9 then (if x9 < (x5.length : Int) then ((some (([(⟨(rd_T38 x5 x9).f0, (rd_T38 x5 x9).f1, (⟨(rd_T38 x5 x9).f2.f0, (rd_T38 x5 x9).f2.f1, (rd_T38 x5 x9).f2.f2⟩ : S36), (⟨(rd_T38 x5 x9).f3.f0, (rd_T38 x5 x9).f3.f1, (rd_T38 x5 x9).f3.f2⟩ : S36)⟩ : S38)] : List (S38)) : List (S38))).bind fun y198 => (if y194.length + y198.length < 1759218604441 then ((some (y194 ++ y198 : List (S38))).bind fun y201 => ((some (x8.drop (x10 : Int).toNat : List (S38))).bind fun y204 => (if y201.length + y204.length < 1759218604441 then (tithebarnref17_chosen.l1 k x5 (y201 ++ y204) (wrap64 (x9 + 1))) else (none)))) else (none))) else (none)) else (none))) else (none))) else (none)) else (none))
end
def tithebarnref17_chosen.f (k : Nat) (l0 : List (S38)) (a1 : Int) : Option ((List (S38))) := (tithebarnref17_Of.f k l0 a1).bind fun t177 => (if a1 > 0 then (if 0 < (t177.length : Int) then (tithebarnref17_chosen.l0 k t177 1 ((rd_T38 t177 0).f0) ((rd_T38 t177 0).f1) ((rd_T38 t177 0).f2.f0) ((rd_T38 t177 0).f2.f1) ((rd_T38 t177 0).f2.f2) ((rd_T38 t177 0).f3.f0) ((rd_T38 t177 0).f3.f1) ((rd_T38 t177 0).f3.f2)) else (none)) else (tithebarnref17_chosen.l1 k t177 ([] : List (S38)) 0))
theorem tithebarnref17_chosen.mono_l : ∀ k, (∀ y0 y1 y2 y3 y4 y5 y6 y7 y8 y9, LeO (tithebarnref17_chosen.l0 k y0 y1 y2 y3 y4 y5 y6 y7 y8 y9) (tithebarnref17_chosen.l0 (k + 1) y0 y1 y2 y3 y4 y5 y6 y7 y8 y9)) ∧ (∀ y0 y1 y2, LeO (tithebarnref17_chosen.l1 k y0 y1 y2) (tithebarnref17_chosen.l1 (k + 1) y0 y1 y2)) ∧ (∀ y0 y1 y2 y3, LeO (tithebarnref17_chosen.l2 k y0 y1 y2 y3) (tithebarnref17_chosen.l2 (k + 1) y0 y1 y2 y3)) ∧ (∀ y0 y1 y2 y3 y4, LeO (tithebarnref17_chosen.j3 k y0 y1 y2 y3 y4) (tithebarnref17_chosen.j3 (k + 1) y0 y1 y2 y3 y4))
 | 0 => ⟨fun _ _ _ _ _ _ _ _ _ _ r h => by simp [tithebarnref17_chosen.l0] at h, fun _ _ _ r h => by simp [tithebarnref17_chosen.l1] at h, fun _ _ _ _ r h => by simp [tithebarnref17_chosen.l2] at h, fun _ _ _ _ _ r h => by simp [tithebarnref17_chosen.j3] at h⟩
 | k + 1 => by
  obtain ⟨ih0, ih1, ih2, ih3⟩ := tithebarnref17_chosen.mono_l k
  refine ⟨?_, ?_, ?_, ?_⟩
  ·intro y0 y1 y2 y3 y4 y5 y6 y7 y8 y9
   unfold tithebarnref17_chosen.l0
   repeat' first
   | (with_reducible exact ih0 _ _ _ _ _ _ _ _ _ _)
   | (with_reducible exact ih1 _ _ _)
   | (with_reducible exact ih2 _ _ _ _)
   | (with_reducible exact ih3 _ _ _ _ _)
   | (with_reducible exact tithebarnref17_Of.mono _ _ _)
   | (with_reducible exact LeO.refl _)
   | (with_reducible exact LeO.none _)
   | (with_reducible refine LeO.ite ?_ ?_)
   | (with_reducible refine LeO.bind ?_ (fun _ => ?_))
  ·intro y0 y1 y2
   unfold tithebarnref17_chosen.l1
   repeat' first
   | (with_reducible exact ih0 _ _ _ _ _ _ _ _ _ _)
   | (with_reducible exact ih1 _ _ _)
   | (with_reducible exact ih2 _ _ _ _)
   | (with_reducible exact ih3 _ _ _ _ _)
   | (with_reducible exact tithebarnref17_Of.mono _ _ _)
   | (with_reducible exact LeO.refl _)
   | (with_reducible exact LeO.none _)
   | (with_reducible refine LeO.ite ?_ ?_)
   | (with_reducible refine LeO.bind ?_ (fun _ => ?_))
  ·intro y0 y1 y2 y3
   unfold tithebarnref17_chosen.l2
   repeat' first
   | (with_reducible exact ih0 _ _ _ _ _ _ _ _ _ _)
   | (with_reducible exact ih1 _ _ _)
   | (with_reducible exact ih2 _ _ _ _)
   | (with_reducible exact ih3 _ _ _ _ _)
   | (with_reducible exact tithebarnref17_Of.mono _ _ _)
   | (with_reducible exact LeO.refl _)
   | (with_reducible exact LeO.none _)
   | (with_reducible refine LeO.ite ?_ ?_)
   | (with_reducible refine LeO.bind ?_ (fun _ => ?_))
  ·intro y0 y1 y2 y3 y4
   unfold tithebarnref17_chosen.j3
   repeat' first
   | (with_reducible exact ih0 _ _ _ _ _ _ _ _ _ _)
   | (with_reducible exact ih1 _ _ _)
   | (with_reducible exact ih2 _ _ _ _)
   | (with_reducible exact ih3 _ _ _ _ _)
   | (with_reducible exact tithebarnref17_Of.mono _ _ _)
   | (with_reducible exact LeO.refl _)
   | (with_reducible exact LeO.none _)
   | (with_reducible refine LeO.ite ?_ ?_)
   | (with_reducible refine LeO.bind ?_ (fun _ => ?_))
theorem tithebarnref17_chosen.mono : ∀ a0 a1 k, LeO (tithebarnref17_chosen.f k a0 a1) (tithebarnref17_chosen.f (k + 1) a0 a1) := by
 intro a0 a1 k
 obtain ⟨ih0, ih1, ih2, ih3⟩ := tithebarnref17_chosen.mono_l k
 unfold tithebarnref17_chosen.f
 repeat' first
   | (with_reducible exact ih0 _ _ _ _ _ _ _ _ _ _)
   | (with_reducible exact ih1 _ _ _)
   | (with_reducible exact ih2 _ _ _ _)
   | (with_reducible exact ih3 _ _ _ _ _)
   | (with_reducible exact tithebarnref17_Of.mono _ _ _)
   | (with_reducible exact LeO.refl _)
   | (with_reducible exact LeO.none _)
   | (with_reducible refine LeO.ite ?_ ?_)
   | (with_reducible refine LeO.bind ?_ (fun _ => ?_))
def tithebarnref17_chosen.T7 : Bool × List (List Nat × List Nat) := (true, [([], []), ([], []), ([0, 1], [0, 1]), ([2], [2]), ([3], [3]), ([], []), ([5], [5]), ([4, 6], [4, 6])])
def tithebarnref17_chosen.B7 : List Nat := [0, 0, 3, 7, 15, 0, 32, 127]
theorem tithebarnref17_chosen.tab7 : rtab .any (opsOf Try.f38 7) = tithebarnref17_chosen.T7 := by kernel_rfl
theorem tithebarnref17_chosen.bits7 : waitsOk tithebarnref17_chosen.T7.2 tithebarnref17_chosen.B7 = true := by kernel_rfl
def tithebarnref17_chosen.T15 : Bool × List (List Nat × List Nat) := (true, [([], []), ([], []), ([1], [1]), ([0, 2], [0, 2]), ([3], [3]), ([4], [4]), ([4], [4]), ([5, 6, 4], [4, 5, 6]), ([7, 4], [4, 7]), ([8, 4], [4, 8]), ([4], [4]), ([4], [4]), ([10, 11, 4], [4, 10, 11]), ([12, 4], [4, 12]), ([13, 4], [4, 13]), ([9, 14, 4], [4, 9, 14]), ([4, 15], [4, 15])])
def tithebarnref17_chosen.B15 : List Nat := [0, 0, 2, 7, 15, 31, 31, 127, 255, 511, 31, 31, 3103, 7199, 15391, 32767, 65535]
theorem tithebarnref17_chosen.tab15 : rtab .any (opsOf Try.f38 15) = tithebarnref17_chosen.T15 := by kernel_rfl
theorem tithebarnref17_chosen.bits15 : waitsOk tithebarnref17_chosen.T15.2 tithebarnref17_chosen.B15 = true := by kernel_rfl
def tithebarnref17_chosen.T17 : Bool × List (List Nat × List Nat) := (true, [([], []), ([], []), ([0, 1], [0, 1]), ([2], [2]), ([], []), ([], []), ([4, 5], [4, 5]), ([6], [6]), ([7], [7]), ([3, 8, 3], [3, 8]), ([], []), ([], []), ([10, 11], [10, 11]), ([9, 12, 9], [9, 12]), ([13, 13, 0, 1, 2, 3, 4, 5, 6, 7, 8, 9, 10, 11, 12, 13], [0, 10, 13])])
def tithebarnref17_chosen.B17 : List Nat := [0, 0, 3, 7, 0, 0, 48, 112, 240, 511, 0, 0, 3072, 8191, 16383]
theorem tithebarnref17_chosen.tab17 : rtab .any (opsOf Try.f38 17) = tithebarnref17_chosen.T17 := by kernel_rfl
theorem tithebarnref17_chosen.bits17 : waitsOk tithebarnref17_chosen.T17.2 tithebarnref17_chosen.B17 = true := by kernel_rfl
set_option maxHeartbeats 8000000 in
set_option maxRecDepth 100000 in
theorem tithebarnref17_chosen.calls (k : Nat) (A0 : Option Addr) (c0 : Nat) (l0 : List (S38)) (a1 : Int) (r : List (S38)) (w : World) (hr0 : Kd.C k38 w A0 l0.length l0) (hc0 : l0.length ≤ c0) (h : tithebarnref17_chosen.f k l0 a1 = some r) :
  Calls Try.prog 38 #[.slice A0 l0.length c0, .int .i64 a1] w fun e w' => ∃ v0_ : Value, e = .returned (v0_) ∧ Kd.R k38 38 w' w.heap.size (fun _ => True) v0_ r ∧ Below w.heap.size w w' := by
 have hu38 := Try.underlying38
 have HR0 := Aside0.mk hr0
 have HC0 := Aside0.mk hc0
 clear hr0 hc0
 have HB := Aside0.mk (Below.refl w.heap.size w)
 have H : ((tithebarnref17_Of.f k l0 a1).bind fun t177 => (if a1 > 0 then (if 0 < (t177.length : Int) then (tithebarnref17_chosen.l0 k t177 1 ((rd_T38 t177 0).f0) ((rd_T38 t177 0).f1) ((rd_T38 t177 0).f2.f0) ((rd_T38 t177 0).f2.f1) ((rd_T38 t177 0).f2.f2) ((rd_T38 t177 0).f3.f0) ((rd_T38 t177 0).f3.f1) ((rd_T38 t177 0).f3.f2)) else (none)) else (tithebarnref17_chosen.l1 k t177 ([] : List (S38)) 0))) = some r := h
 clear h
 replace H := Option.bind_eq_some_iff.mp H
 obtain ⟨t177, A30, H⟩ := H
 replace H : (if a1 > 0 then (if 0 < (t177.length : Int) then (tithebarnref17_chosen.l0 k t177 1 ((rd_T38 t177 0).f0) ((rd_T38 t177 0).f1) ((rd_T38 t177 0).f2.f0) ((rd_T38 t177 0).f2.f1) ((rd_T38 t177 0).f2.f2) ((rd_T38 t177 0).f3.f0) ((rd_T38 t177 0).f3.f1) ((rd_T38 t177 0).f3.f2)) else (none)) else (tithebarnref17_chosen.l1 k t177 ([] : List (S38)) 0)) = some r := H
 have A3 := Aside0.mk A30
 clear A30
 by_cases c4 : a1 > 0
 ·rw [if_pos c4] at H
  have c4b0 : decide (0 < a1) = true := decide_eq_true c4
  clear c4
  by_cases c5 : 0 < (t177.length : Int)
  ·rw [if_pos c5] at H
   have c5b0 : decide (0 < (t177.length : Int)) = true := decide_eq_true c5
   have c5b1 : decide (0 < t177.length) = true := decide_eq_true (by omega)
   clear c5
   have H' := Aside0.mk H
   clear H
   go_enter Try.func38, Try.ntmps38
   go_wp2_with (first | ((with_reducible refine gate_callee (f := 23) rfl ?_); refine goesL_ (some 13) rfl rfl Try.func23 (by kernel_rfl) rfl #[.slice A0 l0.length c0, .int .i64 a1] rfl (by (try simp only [List.map_toArray, List.map_cons, List.map_nil]); first | done | rfl | (simp only [List.length_drop, List.length_take]; rfl)) ?_; (with_reducible refine (tithebarnref17_Of.calls k _ _ l0 a1 t177 _ ?side1 ?side2 A3.out).mono ?_); (case side1 => repeat (first | exact HR0.out | (with_reducible refine Kd.C_alloc ?_ _) | (with_reducible refine Kd.C_drewN ?_ _) | (with_reducible refine Kd.C_drew ?_))); (case side2 => exact HC0.out); rintro e w6 ⟨v178, rfl, ho0, hb⟩; refine ⟨_, rfl, ?_⟩; have n0_ := Aside0.mk (Kd.R_lower ho0 (below_size (by with_reducible repeat first | exact HB.out | apply below_alloc | apply pw_below_drewN | apply below_drew1))); have n1_ := Aside0.mk (below_step (by with_reducible repeat first | exact HB.out | apply below_alloc | apply pw_below_drewN | apply below_drew1) hb); clear HB; have HO179 := n0_; have HB := n1_; clear n0_ n1_; (try clear hb); (try clear hb2); (try clear hk); (try clear hi); (try clear ho0); obtain ⟨Ao7, co7, eo7⟩ := Kd.R_slice HO179.out; subst eo7; have p180 : 0 ≤ (0 : Int) := (by omega); have q180 : 0 < (t177.length : Int) := of_decide_eq_true (by with_reducible assumption); obtain ⟨ad180, e180, hx180_0, hx180_1, hx180_2, hx180_3, hx180_4, hx180_5, hx180_6, hx180_7⟩ := at_T38 (Kd.R_reads' HO179.out).2.2 0 p180 q180; cases e180; have qi180 : (0 < t177.length) = True := eq_true (by omega); (try rw [show ((0 : Int)).toNat = 0 from rfl] at hx180_0); (try rw [show 0 * 8 = 0 from rfl] at hx180_0); (try rw [Addr.add_zero'] at hx180_0); (try rw [show ((0 : Int)).toNat = 0 from rfl] at hx180_1); (try rw [show 0 * 8 = 0 from rfl] at hx180_1); (try rw [Addr.add_zero'] at hx180_1); (try rw [show ((0 : Int)).toNat = 0 from rfl] at hx180_2); (try rw [show 0 * 8 = 0 from rfl] at hx180_2); (try rw [Addr.add_zero'] at hx180_2); (try rw [show ((0 : Int)).toNat = 0 from rfl] at hx180_3); (try rw [show 0 * 8 = 0 from rfl] at hx180_3); (try rw [Addr.add_zero'] at hx180_3); (try rw [show ((0 : Int)).toNat = 0 from rfl] at hx180_4); (try rw [show 0 * 8 = 0 from rfl] at hx180_4); (try rw [Addr.add_zero'] at hx180_4); (try rw [show ((0 : Int)).toNat = 0 from rfl] at hx180_5); (try rw [show 0 * 8 = 0 from rfl] at hx180_5); (try rw [Addr.add_zero'] at hx180_5); (try rw [show ((0 : Int)).toNat = 0 from rfl] at hx180_6); (try rw [show 0 * 8 = 0 from rfl] at hx180_6); (try rw [Addr.add_zero'] at hx180_6); (try rw [show ((0 : Int)).toNat = 0 from rfl] at hx180_7); (try rw [show 0 * 8 = 0 from rfl] at hx180_7); (try rw [Addr.add_zero'] at hx180_7); replace p180 := eq_true p180; replace q180 := eq_true q180) | ((with_reducible refine gate_dst (N := 6) rfl ?_); refine box_event ?hg (N := 6) ?hd (cs := #[.int .i64 0, .int .i64 0, .bool false, .int .i64 0, .string (⟨#[]⟩ : ByteArray), .bool false, .int .i64 0, .string (⟨#[]⟩ : ByteArray)]) (t := 38) ?hr ?_; (case hd => rfl); (case hg => rfl); (case hr => first | (go_simp; done) | (go_simp; rfl)); intro gb181 hg w8 hbox hb; have n0_ := Aside0.mk (Kd.R_below (Kd.R_elderB (by (with_reducible repeat (first | apply Kd.R_alloc | apply Kd.R_drewN | apply Kd.R_drew)); exact HO179.out) gb181 (Nat.le_of_eq hg.symm)) hb); have n1_ := Aside0.mk (below_step (by with_reducible repeat first | exact HB.out | apply below_alloc | apply pw_below_drewN | apply below_drew1) hb); have n2_ := Aside0.mk (hbox); have n3_ := Aside0.mk ((by rw [hg]; exact (below_size (by with_reducible repeat first | exact HB.out | apply below_alloc | apply pw_below_drewN | apply below_drew1)) : w.heap.size ≤ gb181)); have n4_ := Aside0.mk ((by rw [hg]; exact (below_size (by with_reducible repeat first | exact HB.out | apply below_alloc | apply pw_below_drewN | apply below_drew1)) : w.heap.size ≤ gb181)); clear HO179; clear HB; have HO179 := n0_; have HB := n1_; have BK181 := n2_; have GW181 := n3_; have GE181 := n4_; clear n0_ n1_ n2_ n3_ n4_; clear hb hbox hg; obtain ⟨hcz9_0, hcz9_1, hcz9_2, hcz9_3, hcz9_4, hcz9_5, hcz9_6, hcz9_7⟩ := bc8 BK181.out; obtain ⟨hfz9_0, hfz9_1, hfz9_2, hfz9_3, hfz9_4, hfz9_5, hfz9_6, hfz9_7⟩ := bf8 BK181.out))
   go_loopg [7] k (fun kq v7 w' => ∃ (x7_1 : Int) (x182000_1 : Int) (x182001_1 : Int) (x182002_1 : Bool) (x182003_1 : Int) (x182004_1 : ByteArray) (x182005_1 : Bool) (x182006_1 : Int) (x182007_1 : ByteArray), v7 = .int .i64 x7_1 ∧ Aside0 (tithebarnref17_chosen.l0 kq t177 x7_1 x182000_1 x182001_1 x182002_1 x182003_1 x182004_1 x182005_1 x182006_1 x182007_1 = some r) ∧ Aside0 (kq ≤ k) ∧ Aside0 (Kd.R k38 38 w' w.heap.size (fun k_ => k_ ≠ gb181) (.slice (some ad180) t177.length co7) t177) ∧ Aside0 (w'.heap[gb181]? = some (.cells #[.int .i64 x182000_1, .int .i64 x182001_1, .bool x182002_1, .int .i64 x182003_1, .string x182004_1, .bool x182005_1, .int .i64 x182006_1, .string x182007_1] 38 (0, 0))) ∧ Aside0 (Below w.heap.size w w'))
   case atStart => exact ⟨(1), ((rd_T38 t177 0).f0), ((rd_T38 t177 0).f1), ((rd_T38 t177 0).f2.f0), ((rd_T38 t177 0).f2.f1), ((rd_T38 t177 0).f2.f2), ((rd_T38 t177 0).f3.f0), ((rd_T38 t177 0).f3.f1), ((rd_T38 t177 0).f3.f2), (by first | rfl | (simp; done) | (simp [*]; done)), H', ⟨Nat.le_refl _⟩, ⟨by (with_reducible repeat (first | apply Kd.R_alloc | apply Kd.R_drewN | apply Kd.R_drew)); exact Kd.R_mono (Kd.R_far (p := ⟨gb181, 7, none⟩) (Kd.R_far (p := ⟨gb181, 6, none⟩) (Kd.R_far (p := ⟨gb181, 5, none⟩) (Kd.R_far (p := ⟨gb181, 4, none⟩) (Kd.R_far (p := ⟨gb181, 3, none⟩) (Kd.R_far (p := ⟨gb181, 2, none⟩) (Kd.R_far (p := ⟨gb181, 1, none⟩) (Kd.R_far (p := ⟨gb181, 0, none⟩) (Kd.R_mono HO179.out (fun k_ hk => (⟨hk, hk.2⟩ : _ ∧ k_ ≠ gb181))) (fun _ hk => hk.2) (.int .i64 ((rd_T38 t177 0).f0))) (fun _ hk => hk.2) (.int .i64 ((rd_T38 t177 0).f1))) (fun _ hk => hk.2) (.bool ((rd_T38 t177 0).f2.f0))) (fun _ hk => hk.2) (.int .i64 ((rd_T38 t177 0).f2.f1))) (fun _ hk => hk.2) (.string ((rd_T38 t177 0).f2.f2))) (fun _ hk => hk.2) (.bool ((rd_T38 t177 0).f3.f0))) (fun _ hk => hk.2) (.int .i64 ((rd_T38 t177 0).f3.f1))) (fun _ hk => hk.2) (.string ((rd_T38 t177 0).f3.f2))) (fun _ hk => hk.1.2)⟩, ⟨by refine blk_put (cs := #[.int .i64 ((rd_T38 t177 0).f0), .int .i64 ((rd_T38 t177 0).f1), .bool ((rd_T38 t177 0).f2.f0), .int .i64 ((rd_T38 t177 0).f2.f1), .string ((rd_T38 t177 0).f2.f2), .bool ((rd_T38 t177 0).f3.f0), .int .i64 ((rd_T38 t177 0).f3.f1), .string (⟨#[]⟩ : ByteArray)]) ?_ 7 _ rfl; refine blk_put (cs := #[.int .i64 ((rd_T38 t177 0).f0), .int .i64 ((rd_T38 t177 0).f1), .bool ((rd_T38 t177 0).f2.f0), .int .i64 ((rd_T38 t177 0).f2.f1), .string ((rd_T38 t177 0).f2.f2), .bool ((rd_T38 t177 0).f3.f0), .int .i64 0, .string (⟨#[]⟩ : ByteArray)]) ?_ 6 _ rfl; refine blk_put (cs := #[.int .i64 ((rd_T38 t177 0).f0), .int .i64 ((rd_T38 t177 0).f1), .bool ((rd_T38 t177 0).f2.f0), .int .i64 ((rd_T38 t177 0).f2.f1), .string ((rd_T38 t177 0).f2.f2), .bool false, .int .i64 0, .string (⟨#[]⟩ : ByteArray)]) ?_ 5 _ rfl; refine blk_put (cs := #[.int .i64 ((rd_T38 t177 0).f0), .int .i64 ((rd_T38 t177 0).f1), .bool ((rd_T38 t177 0).f2.f0), .int .i64 ((rd_T38 t177 0).f2.f1), .string (⟨#[]⟩ : ByteArray), .bool false, .int .i64 0, .string (⟨#[]⟩ : ByteArray)]) ?_ 4 _ rfl; refine blk_put (cs := #[.int .i64 ((rd_T38 t177 0).f0), .int .i64 ((rd_T38 t177 0).f1), .bool ((rd_T38 t177 0).f2.f0), .int .i64 0, .string (⟨#[]⟩ : ByteArray), .bool false, .int .i64 0, .string (⟨#[]⟩ : ByteArray)]) ?_ 3 _ rfl; refine blk_put (cs := #[.int .i64 ((rd_T38 t177 0).f0), .int .i64 ((rd_T38 t177 0).f1), .bool false, .int .i64 0, .string (⟨#[]⟩ : ByteArray), .bool false, .int .i64 0, .string (⟨#[]⟩ : ByteArray)]) ?_ 2 _ rfl; refine blk_put (cs := #[.int .i64 ((rd_T38 t177 0).f0), .int .i64 0, .bool false, .int .i64 0, .string (⟨#[]⟩ : ByteArray), .bool false, .int .i64 0, .string (⟨#[]⟩ : ByteArray)]) ?_ 1 _ rfl; refine blk_put (cs := #[.int .i64 0, .int .i64 0, .bool false, .int .i64 0, .string (⟨#[]⟩ : ByteArray), .bool false, .int .i64 0, .string (⟨#[]⟩ : ByteArray)]) ?_ 0 _ rfl; (with_reducible repeat (first | refine blk_drewN ?_ _ | refine blk_drew ?_ | refine blk_alloc ?_ _)); exact BK181.out⟩, ⟨by repeat (first | (with_reducible first | exact HB.out | apply below_alloc | apply pw_below_drewN | apply below_drew1 | refine below_set ?_ GE181.out) | exact HB.out)⟩⟩
   case round =>
    clear H'
    try clear p1
    try clear q1
    try clear hx1
    try clear qi1
    try clear c2
    try clear p2
    try clear c3
    try clear c4
    try clear c4b0
    try clear c5
    try clear c5b0
    try clear c5b1
    try clear hcz9_0 hcz9_1 hcz9_2 hcz9_3 hcz9_4 hcz9_5 hcz9_6 hcz9_7
    try clear hfz9_0 hfz9_1 hfz9_2 hfz9_3 hfz9_4 hfz9_5 hfz9_6 hfz9_7
    try clear hx180_0 hx180_1 hx180_2 hx180_3 hx180_4 hx180_5 hx180_6 hx180_7
    try clear p180
    try clear q180
    obtain ⟨x7_1, x182000_1, x182001_1, x182002_1, x182003_1, x182004_1, x182005_1, x182006_1, x182007_1, rfl, HA, HK1, HO_5, BK181, HB⟩ := hrel
    cases gk with
    | zero => exact absurd HA.out (by simp [tithebarnref17_chosen.l0])
    | succ k1 =>
     have H := HA.out
     clear HA
     simp only [tithebarnref17_chosen.l0] at H
     by_cases c10 : x7_1 < (t177.length : Int)
     ·rw [if_pos c10] at H
      have c10b0 : decide (x7_1 < (t177.length : Int)) = true := decide_eq_true c10
      clear c10
      by_cases c11 : 0 ≤ x7_1
      ·rw [if_pos c11] at H
       have c11b0 : decide (0 ≤ x7_1) = true := decide_eq_true c11
       clear c11
       by_cases c12 : ((rd_T38 t177 x7_1).f0) < x182000_1
       ·rw [if_pos c12] at H
        have c12b0 : decide (((rd_T38 t177 x7_1).f0) < x182000_1) = true := decide_eq_true c12
        clear c12
        have H' := Aside0.mk H
        clear H
        try go_wp2
        have n0_ := Aside0.mk (Kd.R_drew HO_5.out)
        have n1_ := Aside0.mk (blk_drew BK181.out)
        have n2_ := Aside0.mk (below_drew1 HB.out)
        clear HO_5
        clear BK181
        clear HB
        have HO_5 := n0_
        have BK181 := n1_
        have HB := n2_
        clear n0_ n1_ n2_
        have p185 : 0 ≤ (x7_1 : Int) := of_decide_eq_true (by with_reducible assumption)
        have q185 : x7_1 < (t177.length : Int) := of_decide_eq_true (by with_reducible assumption)
        obtain ⟨ad185, e185, hx185_0, hx185_1, hx185_2, hx185_3, hx185_4, hx185_5, hx185_6, hx185_7⟩ := at_T38 (Kd.R_reads' HO_5.out).2.2 x7_1 p185 q185
        obtain rfl : ad180 = ad185 := (by injection e185)
        replace p185 := eq_true p185
        replace q185 := eq_true q185
        refine start_ (n := 8) (S := fun w' => w'.cell? ⟨gb181, 0, none⟩ = some (.int .i64 x182000_1) ∧ w'.cell? ⟨gb181, 1, none⟩ = some (.int .i64 x182001_1) ∧ w'.cell? ⟨gb181, 2, none⟩ = some (.bool x182002_1) ∧ w'.cell? ⟨gb181, 3, none⟩ = some (.int .i64 x182003_1) ∧ w'.cell? ⟨gb181, 4, none⟩ = some (.string x182004_1) ∧ w'.cell? ⟨gb181, 5, none⟩ = some (.bool x182005_1) ∧ w'.cell? ⟨gb181, 6, none⟩ = some (.int .i64 x182006_1) ∧ w'.cell? ⟨gb181, 7, none⟩ = some (.string x182007_1) ∧ w'.cell? (ad180.add ((x7_1).toNat * 8)) = some (.int .i64 ((rd_T38 t177 x7_1).f0)) ∧ w'.cell? ⟨(ad180.add ((x7_1).toNat * 8)).block, (ad180.add ((x7_1).toNat * 8)).off + 1, none⟩ = some (.int .i64 ((rd_T38 t177 x7_1).f1)) ∧ w'.cell? ⟨(ad180.add ((x7_1).toNat * 8)).block, (ad180.add ((x7_1).toNat * 8)).off + 2, none⟩ = some (.bool ((rd_T38 t177 x7_1).f2.f0)) ∧ w'.cell? ⟨(ad180.add ((x7_1).toNat * 8)).block, (ad180.add ((x7_1).toNat * 8)).off + 3, none⟩ = some (.int .i64 ((rd_T38 t177 x7_1).f2.f1)) ∧ w'.cell? ⟨(ad180.add ((x7_1).toNat * 8)).block, (ad180.add ((x7_1).toNat * 8)).off + 4, none⟩ = some (.string ((rd_T38 t177 x7_1).f2.f2)) ∧ w'.cell? ⟨(ad180.add ((x7_1).toNat * 8)).block, (ad180.add ((x7_1).toNat * 8)).off + 5, none⟩ = some (.bool ((rd_T38 t177 x7_1).f3.f0)) ∧ w'.cell? ⟨(ad180.add ((x7_1).toNat * 8)).block, (ad180.add ((x7_1).toNat * 8)).off + 6, none⟩ = some (.int .i64 ((rd_T38 t177 x7_1).f3.f1)) ∧ w'.cell? ⟨(ad180.add ((x7_1).toNat * 8)).block, (ad180.add ((x7_1).toNat * 8)).off + 7, none⟩ = some (.string ((rd_T38 t177 x7_1).f3.f2))) (ds := []) #[false, false, false, false, false, false, false, false] (by kernel_rfl) rfl rfl ⟨(blk_cell BK181.out 0).trans rfl, (blk_cell BK181.out 1).trans rfl, (blk_cell BK181.out 2).trans rfl, (blk_cell BK181.out 3).trans rfl, (blk_cell BK181.out 4).trans rfl, (blk_cell BK181.out 5).trans rfl, (blk_cell BK181.out 6).trans rfl, (blk_cell BK181.out 7).trans rfl, hx185_0, hx185_1, hx185_2, hx185_3, hx185_4, hx185_5, hx185_6, hx185_7⟩ (fun hHeld => ?_); refine with_tabW tithebarnref17_chosen.tab7 tithebarnref17_chosen.bits7 (fun HT_ HW_ => ?_)
        generalize wr.drew = w13 at HO_5 BK181 HB hx185_0 hx185_1 hx185_2 hx185_3 hx185_4 hx185_5 hx185_6 hx185_7 hHeld ⊢
        refine pure_ (i := 0) (N := some 25) (v := ?_) (a' := ?_) #[true, false, false, false, false, false, false, false] rfl rfl (any_of HT_.out (by kernel_rfl)) (fun _ _ _ h => h) (Or.inl ⟨by rfl, ?_⟩) ?_ ?_
        rotate_left
        ·intro w'
         go_simp
         with_reducible rfl
        rotate_left
        ·simp only [Act.put, List.setIfInBounds_toArray, List.set_cons_zero, List.set_cons_succ, i64_w, i32_w]
         rfl
        refine pure_ (i := 1) (N := some 26) (v := ?_) (a' := ?_) #[true, true, false, false, false, false, false, false] rfl rfl (any_of HT_.out (by kernel_rfl)) (fun _ _ _ h => h) (Or.inl ⟨by rfl, ?_⟩) ?_ ?_
        rotate_left
        ·intro w'
         go_simp
         with_reducible rfl
        rotate_left
        ·simp only [Act.put, List.setIfInBounds_toArray, List.set_cons_zero, List.set_cons_succ, i64_w, i32_w]
         rfl
        refine pure_ (i := 2) (N := some 27) (v := ?_) (a' := ?_) #[true, true, true, false, false, false, false, false] rfl rfl (any_of HT_.out (by kernel_rfl)) (fun _ _ _ h => h) (Or.inl ⟨by rfl, ?_⟩) ?_ ?_
        rotate_left
        ·intro w'
         go_simp
         with_reducible rfl
        rotate_left
        ·simp only [Act.put, List.setIfInBounds_toArray, List.set_cons_zero, List.set_cons_succ, i64_w, i32_w]
         rfl
        refine pure_ (i := 3) (N := some 28) (v := ?_) (a' := ?_) #[true, true, true, true, false, false, false, false] rfl rfl (any_of HT_.out (by kernel_rfl)) (fun _ _ _ h => h) (Or.inl ⟨by rfl, ?_⟩) ?_ ?_
        rotate_left
        ·intro w'
         go_simp
         with_reducible rfl
        rotate_left
        ·simp only [Act.put, List.setIfInBounds_toArray, List.set_cons_zero, List.set_cons_succ, i64_w, i32_w]
         rfl
        refine pure_ (i := 5) (N := some 30) (v := ?_) (a' := ?_) #[true, true, true, true, false, true, false, false] rfl rfl (any_of HT_.out (by kernel_rfl)) (fun _ _ _ h => h) (Or.inl ⟨by rfl, ?_⟩) ?_ ?_
        rotate_left
        ·intro w'
         go_simp
         with_reducible rfl
        rotate_left
        ·simp only [Act.put, List.setIfInBounds_toArray, List.set_cons_zero, List.set_cons_succ, i64_w, i32_w]
         rfl
        refine take_ (i := 4) (N := some 29) (v := ?_) (a' := ?_) #[true, true, true, true, true, true, false, false] rfl rfl (take_ofW HT_.out HW_.out (by kernel_rfl)) (fun _ _ _ h => h) (Or.inl ⟨by rfl, ?_⟩) hHeld ?_ ?_
        rotate_left
        ·rintro w' ⟨s0, s1, s2, s3, s4, s5, s6, s7, s8, s9, s10, s11, s12, s13, s14, s15⟩
         go_simp
         with_reducible rfl
        rotate_left
        ·simp only [Act.put, List.setIfInBounds_toArray, List.set_cons_zero, List.set_cons_succ, i64_w, i32_w]
         rfl
        refine take_ (i := 6) (N := some 31) (v := ?_) (a' := ?_) #[true, true, true, true, true, true, true, false] rfl rfl (take_ofW HT_.out HW_.out (by kernel_rfl)) (fun _ _ _ h => h) (Or.inl ⟨by rfl, ?_⟩) hHeld ?_ ?_
        rotate_left
        ·rintro w' ⟨s0, s1, s2, s3, s4, s5, s6, s7, s8, s9, s10, s11, s12, s13, s14, s15⟩
         go_simp
         with_reducible rfl
        rotate_left
        ·simp only [Act.put, List.setIfInBounds_toArray, List.set_cons_zero, List.set_cons_succ, i64_w, i32_w]
         rfl
        refine pure_ (i := 7) (N := some 32) (v := ?_) (a' := ?_) #[true, true, true, true, true, true, true, true] rfl rfl (any_of HT_.out (by kernel_rfl)) (fun _ _ _ h => h) (Or.inl ⟨by rfl, ?_⟩) ?_ ?_
        rotate_left
        ·intro w'
         go_simp
         with_reducible rfl
        rotate_left
        ·simp only [Act.put, List.setIfInBounds_toArray, List.set_cons_zero, List.set_cons_succ, i64_w, i32_w]
         rfl
        refine done_ (done_of HT_.out (by kernel_rfl)) ?_
        have p186 : 0 ≤ (x7_1 : Int) := of_decide_eq_true (by with_reducible assumption)
        have q186 : x7_1 < (t177.length : Int) := of_decide_eq_true (by with_reducible assumption)
        obtain ⟨ad186, e186, hx186_0, hx186_1, hx186_2, hx186_3, hx186_4, hx186_5, hx186_6, hx186_7⟩ := at_T38 (Kd.R_reads' HO_5.out).2.2 x7_1 p186 q186
        obtain rfl : ad180 = ad186 := (by injection e186)
        replace p186 := eq_true p186
        replace q186 := eq_true q186
        obtain ⟨hcz14_0, hcz14_1, hcz14_2, hcz14_3, hcz14_4, hcz14_5, hcz14_6, hcz14_7⟩ := bc8 BK181.out
        obtain ⟨hfz14_0, hfz14_1, hfz14_2, hfz14_3, hfz14_4, hfz14_5, hfz14_6, hfz14_7⟩ := bf8 BK181.out
        try go_wp2
        go_roundg k1
        case measure => have := HK1.out; omega
        case rel => exact ⟨(wrap64 (x7_1 + 1)), ((rd_T38 t177 x7_1).f0), ((rd_T38 t177 x7_1).f1), ((rd_T38 t177 x7_1).f2.f0), ((rd_T38 t177 x7_1).f2.f1), ((rd_T38 t177 x7_1).f2.f2), ((rd_T38 t177 x7_1).f3.f0), ((rd_T38 t177 x7_1).f3.f1), ((rd_T38 t177 x7_1).f3.f2), (by first | rfl | (simp; done) | (simp [*]; done)), H', ⟨by have := HK1.out; omega⟩, ⟨by (with_reducible repeat (first | apply Kd.R_alloc | apply Kd.R_drewN | apply Kd.R_drew)); exact Kd.R_mono (Kd.R_far (p := ⟨gb181, 7, none⟩) (Kd.R_far (p := ⟨gb181, 6, none⟩) (Kd.R_far (p := ⟨gb181, 5, none⟩) (Kd.R_far (p := ⟨gb181, 4, none⟩) (Kd.R_far (p := ⟨gb181, 3, none⟩) (Kd.R_far (p := ⟨gb181, 2, none⟩) (Kd.R_far (p := ⟨gb181, 1, none⟩) (Kd.R_far (p := ⟨gb181, 0, none⟩) (Kd.R_mono HO_5.out (fun k_ hk => (⟨hk, hk⟩ : _ ∧ k_ ≠ gb181))) (fun _ hk => hk.2) (.int .i64 ((rd_T38 t177 x7_1).f0))) (fun _ hk => hk.2) (.int .i64 ((rd_T38 t177 x7_1).f1))) (fun _ hk => hk.2) (.bool ((rd_T38 t177 x7_1).f2.f0))) (fun _ hk => hk.2) (.int .i64 ((rd_T38 t177 x7_1).f2.f1))) (fun _ hk => hk.2) (.string ((rd_T38 t177 x7_1).f2.f2))) (fun _ hk => hk.2) (.bool ((rd_T38 t177 x7_1).f3.f0))) (fun _ hk => hk.2) (.int .i64 ((rd_T38 t177 x7_1).f3.f1))) (fun _ hk => hk.2) (.string ((rd_T38 t177 x7_1).f3.f2))) (fun _ hk => hk.1)⟩, ⟨by refine blk_put (cs := #[.int .i64 ((rd_T38 t177 x7_1).f0), .int .i64 ((rd_T38 t177 x7_1).f1), .bool ((rd_T38 t177 x7_1).f2.f0), .int .i64 ((rd_T38 t177 x7_1).f2.f1), .string ((rd_T38 t177 x7_1).f2.f2), .bool ((rd_T38 t177 x7_1).f3.f0), .int .i64 ((rd_T38 t177 x7_1).f3.f1), .string x182007_1]) ?_ 7 _ rfl; refine blk_put (cs := #[.int .i64 ((rd_T38 t177 x7_1).f0), .int .i64 ((rd_T38 t177 x7_1).f1), .bool ((rd_T38 t177 x7_1).f2.f0), .int .i64 ((rd_T38 t177 x7_1).f2.f1), .string ((rd_T38 t177 x7_1).f2.f2), .bool ((rd_T38 t177 x7_1).f3.f0), .int .i64 x182006_1, .string x182007_1]) ?_ 6 _ rfl; refine blk_put (cs := #[.int .i64 ((rd_T38 t177 x7_1).f0), .int .i64 ((rd_T38 t177 x7_1).f1), .bool ((rd_T38 t177 x7_1).f2.f0), .int .i64 ((rd_T38 t177 x7_1).f2.f1), .string ((rd_T38 t177 x7_1).f2.f2), .bool x182005_1, .int .i64 x182006_1, .string x182007_1]) ?_ 5 _ rfl; refine blk_put (cs := #[.int .i64 ((rd_T38 t177 x7_1).f0), .int .i64 ((rd_T38 t177 x7_1).f1), .bool ((rd_T38 t177 x7_1).f2.f0), .int .i64 ((rd_T38 t177 x7_1).f2.f1), .string x182004_1, .bool x182005_1, .int .i64 x182006_1, .string x182007_1]) ?_ 4 _ rfl; refine blk_put (cs := #[.int .i64 ((rd_T38 t177 x7_1).f0), .int .i64 ((rd_T38 t177 x7_1).f1), .bool ((rd_T38 t177 x7_1).f2.f0), .int .i64 x182003_1, .string x182004_1, .bool x182005_1, .int .i64 x182006_1, .string x182007_1]) ?_ 3 _ rfl; refine blk_put (cs := #[.int .i64 ((rd_T38 t177 x7_1).f0), .int .i64 ((rd_T38 t177 x7_1).f1), .bool x182002_1, .int .i64 x182003_1, .string x182004_1, .bool x182005_1, .int .i64 x182006_1, .string x182007_1]) ?_ 2 _ rfl; refine blk_put (cs := #[.int .i64 ((rd_T38 t177 x7_1).f0), .int .i64 x182001_1, .bool x182002_1, .int .i64 x182003_1, .string x182004_1, .bool x182005_1, .int .i64 x182006_1, .string x182007_1]) ?_ 1 _ rfl; refine blk_put (cs := #[.int .i64 x182000_1, .int .i64 x182001_1, .bool x182002_1, .int .i64 x182003_1, .string x182004_1, .bool x182005_1, .int .i64 x182006_1, .string x182007_1]) ?_ 0 _ rfl; (with_reducible repeat (first | refine blk_drewN ?_ _ | refine blk_drew ?_ | refine blk_alloc ?_ _)); exact BK181.out⟩, ⟨by repeat (first | (with_reducible first | exact HB.out | apply below_alloc | apply pw_below_drewN | apply below_drew1 | refine below_set ?_ GE181.out) | exact HB.out)⟩⟩
       ·rw [if_neg c12] at H
        have c12b0 : decide (((rd_T38 t177 x7_1).f0) < x182000_1) = false := decide_eq_false c12
        clear c12
        have H' := Aside0.mk H
        clear H
        try go_wp2
        have n0_ := Aside0.mk (Kd.R_drew HO_5.out)
        have n1_ := Aside0.mk (blk_drew BK181.out)
        have n2_ := Aside0.mk (below_drew1 HB.out)
        clear HO_5
        clear BK181
        clear HB
        have HO_5 := n0_
        have BK181 := n1_
        have HB := n2_
        clear n0_ n1_ n2_
        have p185 : 0 ≤ (x7_1 : Int) := of_decide_eq_true (by with_reducible assumption)
        have q185 : x7_1 < (t177.length : Int) := of_decide_eq_true (by with_reducible assumption)
        obtain ⟨ad185, e185, hx185_0, hx185_1, hx185_2, hx185_3, hx185_4, hx185_5, hx185_6, hx185_7⟩ := at_T38 (Kd.R_reads' HO_5.out).2.2 x7_1 p185 q185
        obtain rfl : ad180 = ad185 := (by injection e185)
        replace p185 := eq_true p185
        replace q185 := eq_true q185
        refine start_ (n := 8) (S := fun w' => w'.cell? ⟨gb181, 0, none⟩ = some (.int .i64 x182000_1) ∧ w'.cell? ⟨gb181, 1, none⟩ = some (.int .i64 x182001_1) ∧ w'.cell? ⟨gb181, 2, none⟩ = some (.bool x182002_1) ∧ w'.cell? ⟨gb181, 3, none⟩ = some (.int .i64 x182003_1) ∧ w'.cell? ⟨gb181, 4, none⟩ = some (.string x182004_1) ∧ w'.cell? ⟨gb181, 5, none⟩ = some (.bool x182005_1) ∧ w'.cell? ⟨gb181, 6, none⟩ = some (.int .i64 x182006_1) ∧ w'.cell? ⟨gb181, 7, none⟩ = some (.string x182007_1) ∧ w'.cell? (ad180.add ((x7_1).toNat * 8)) = some (.int .i64 ((rd_T38 t177 x7_1).f0)) ∧ w'.cell? ⟨(ad180.add ((x7_1).toNat * 8)).block, (ad180.add ((x7_1).toNat * 8)).off + 1, none⟩ = some (.int .i64 ((rd_T38 t177 x7_1).f1)) ∧ w'.cell? ⟨(ad180.add ((x7_1).toNat * 8)).block, (ad180.add ((x7_1).toNat * 8)).off + 2, none⟩ = some (.bool ((rd_T38 t177 x7_1).f2.f0)) ∧ w'.cell? ⟨(ad180.add ((x7_1).toNat * 8)).block, (ad180.add ((x7_1).toNat * 8)).off + 3, none⟩ = some (.int .i64 ((rd_T38 t177 x7_1).f2.f1)) ∧ w'.cell? ⟨(ad180.add ((x7_1).toNat * 8)).block, (ad180.add ((x7_1).toNat * 8)).off + 4, none⟩ = some (.string ((rd_T38 t177 x7_1).f2.f2)) ∧ w'.cell? ⟨(ad180.add ((x7_1).toNat * 8)).block, (ad180.add ((x7_1).toNat * 8)).off + 5, none⟩ = some (.bool ((rd_T38 t177 x7_1).f3.f0)) ∧ w'.cell? ⟨(ad180.add ((x7_1).toNat * 8)).block, (ad180.add ((x7_1).toNat * 8)).off + 6, none⟩ = some (.int .i64 ((rd_T38 t177 x7_1).f3.f1)) ∧ w'.cell? ⟨(ad180.add ((x7_1).toNat * 8)).block, (ad180.add ((x7_1).toNat * 8)).off + 7, none⟩ = some (.string ((rd_T38 t177 x7_1).f3.f2))) (ds := []) #[false, false, false, false, false, false, false, false] (by kernel_rfl) rfl rfl ⟨(blk_cell BK181.out 0).trans rfl, (blk_cell BK181.out 1).trans rfl, (blk_cell BK181.out 2).trans rfl, (blk_cell BK181.out 3).trans rfl, (blk_cell BK181.out 4).trans rfl, (blk_cell BK181.out 5).trans rfl, (blk_cell BK181.out 6).trans rfl, (blk_cell BK181.out 7).trans rfl, hx185_0, hx185_1, hx185_2, hx185_3, hx185_4, hx185_5, hx185_6, hx185_7⟩ (fun hHeld => ?_); refine with_tabW tithebarnref17_chosen.tab7 tithebarnref17_chosen.bits7 (fun HT_ HW_ => ?_)
        generalize wr.drew = w15 at HO_5 BK181 HB hx185_0 hx185_1 hx185_2 hx185_3 hx185_4 hx185_5 hx185_6 hx185_7 hHeld ⊢
        refine pure_ (i := 0) (N := some 25) (v := ?_) (a' := ?_) #[true, false, false, false, false, false, false, false] rfl rfl (any_of HT_.out (by kernel_rfl)) (fun _ _ _ h => h) (Or.inl ⟨by rfl, ?_⟩) ?_ ?_
        rotate_left
        ·intro w'
         go_simp
         with_reducible rfl
        rotate_left
        ·simp only [Act.put, List.setIfInBounds_toArray, List.set_cons_zero, List.set_cons_succ, i64_w, i32_w]
         rfl
        refine pure_ (i := 1) (N := some 26) (v := ?_) (a' := ?_) #[true, true, false, false, false, false, false, false] rfl rfl (any_of HT_.out (by kernel_rfl)) (fun _ _ _ h => h) (Or.inl ⟨by rfl, ?_⟩) ?_ ?_
        rotate_left
        ·intro w'
         go_simp
         with_reducible rfl
        rotate_left
        ·simp only [Act.put, List.setIfInBounds_toArray, List.set_cons_zero, List.set_cons_succ, i64_w, i32_w]
         rfl
        refine pure_ (i := 2) (N := some 27) (v := ?_) (a' := ?_) #[true, true, true, false, false, false, false, false] rfl rfl (any_of HT_.out (by kernel_rfl)) (fun _ _ _ h => h) (Or.inl ⟨by rfl, ?_⟩) ?_ ?_
        rotate_left
        ·intro w'
         go_simp
         with_reducible rfl
        rotate_left
        ·simp only [Act.put, List.setIfInBounds_toArray, List.set_cons_zero, List.set_cons_succ, i64_w, i32_w]
         rfl
        refine pure_ (i := 3) (N := some 28) (v := ?_) (a' := ?_) #[true, true, true, true, false, false, false, false] rfl rfl (any_of HT_.out (by kernel_rfl)) (fun _ _ _ h => h) (Or.inl ⟨by rfl, ?_⟩) ?_ ?_
        rotate_left
        ·intro w'
         go_simp
         with_reducible rfl
        rotate_left
        ·simp only [Act.put, List.setIfInBounds_toArray, List.set_cons_zero, List.set_cons_succ, i64_w, i32_w]
         rfl
        refine pure_ (i := 5) (N := some 30) (v := ?_) (a' := ?_) #[true, true, true, true, false, true, false, false] rfl rfl (any_of HT_.out (by kernel_rfl)) (fun _ _ _ h => h) (Or.inl ⟨by rfl, ?_⟩) ?_ ?_
        rotate_left
        ·intro w'
         go_simp
         with_reducible rfl
        rotate_left
        ·simp only [Act.put, List.setIfInBounds_toArray, List.set_cons_zero, List.set_cons_succ, i64_w, i32_w]
         rfl
        refine take_ (i := 4) (N := some 29) (v := ?_) (a' := ?_) #[true, true, true, true, true, true, false, false] rfl rfl (take_ofW HT_.out HW_.out (by kernel_rfl)) (fun _ _ _ h => h) (Or.inl ⟨by rfl, ?_⟩) hHeld ?_ ?_
        rotate_left
        ·rintro w' ⟨s0, s1, s2, s3, s4, s5, s6, s7, s8, s9, s10, s11, s12, s13, s14, s15⟩
         go_simp
         with_reducible rfl
        rotate_left
        ·simp only [Act.put, List.setIfInBounds_toArray, List.set_cons_zero, List.set_cons_succ, i64_w, i32_w]
         rfl
        refine take_ (i := 6) (N := some 31) (v := ?_) (a' := ?_) #[true, true, true, true, true, true, true, false] rfl rfl (take_ofW HT_.out HW_.out (by kernel_rfl)) (fun _ _ _ h => h) (Or.inl ⟨by rfl, ?_⟩) hHeld ?_ ?_
        rotate_left
        ·rintro w' ⟨s0, s1, s2, s3, s4, s5, s6, s7, s8, s9, s10, s11, s12, s13, s14, s15⟩
         go_simp
         with_reducible rfl
        rotate_left
        ·simp only [Act.put, List.setIfInBounds_toArray, List.set_cons_zero, List.set_cons_succ, i64_w, i32_w]
         rfl
        refine pure_ (i := 7) (N := some 32) (v := ?_) (a' := ?_) #[true, true, true, true, true, true, true, true] rfl rfl (any_of HT_.out (by kernel_rfl)) (fun _ _ _ h => h) (Or.inl ⟨by rfl, ?_⟩) ?_ ?_
        rotate_left
        ·intro w'
         go_simp
         with_reducible rfl
        rotate_left
        ·simp only [Act.put, List.setIfInBounds_toArray, List.set_cons_zero, List.set_cons_succ, i64_w, i32_w]
         rfl
        refine done_ (done_of HT_.out (by kernel_rfl)) ?_
        try go_wp2
        go_roundg k1
        case measure => have := HK1.out; omega
        case rel => exact ⟨(wrap64 (x7_1 + 1)), (x182000_1), (x182001_1), (x182002_1), (x182003_1), (x182004_1), (x182005_1), (x182006_1), (x182007_1), (by first | rfl | (simp; done) | (simp [*]; done)), H', ⟨by have := HK1.out; omega⟩, ⟨by (with_reducible repeat (first | apply Kd.R_alloc | apply Kd.R_drewN | apply Kd.R_drew)); exact HO_5.out⟩, ⟨by (with_reducible repeat (first | refine blk_drewN ?_ _ | refine blk_drew ?_ | refine blk_alloc ?_ _)); exact BK181.out⟩, ⟨by repeat (first | (with_reducible first | exact HB.out | apply below_alloc | apply pw_below_drewN | apply below_drew1 | refine below_set ?_ GE181.out) | exact HB.out)⟩⟩
      ·rw [if_neg c11] at H
       exact absurd H (by simp)
     ·rw [if_neg c10] at H
      have c10b0 : decide (x7_1 < (t177.length : Int)) = false := decide_eq_false c10
      clear c10
      obtain ⟨y182, hy182⟩ : ∃ y_ : List (S38), y_ = (([(⟨x182000_1, x182001_1, (⟨x182002_1, x182003_1, x182004_1⟩ : S36), (⟨x182005_1, x182006_1, x182007_1⟩ : S36)⟩ : S38)] : List (S38))) := ⟨_, rfl⟩
      replace H : (some y182) = some r := by first | (rw [hy182]; with_reducible exact H) | (have H2_ := (Option.bind_some _ _).symm.trans H; rw [hy182]; with_reducible exact H2_) | (have H2_ := (Option.bind_some _ _).symm.trans H; with_reducible exact H2_) | with_reducible exact H | (rw [hy182]; exact H) | exact H
      have Ny182 := Aside0.mk hy182
      clear hy182
      obtain rfl := Option.some.inj H
      obtain ⟨hcz16_0, hcz16_1, hcz16_2, hcz16_3, hcz16_4, hcz16_5, hcz16_6, hcz16_7⟩ := bc8 BK181.out
      obtain ⟨hfz16_0, hfz16_1, hfz16_2, hfz16_3, hfz16_4, hfz16_5, hfz16_6, hfz16_7⟩ := bf8 BK181.out
      go_wp2_with (first | ((with_reducible refine gate_dst (N := 38) rfl ?_); refine Kd.R_lit k38 _ 38 ?hg (N := 38) ?hd (xs := ([(⟨x182000_1, x182001_1, (⟨x182002_1, x182003_1, x182004_1⟩ : S36), (⟨x182005_1, x182006_1, x182007_1⟩ : S36)⟩ : S38)] : List (S38))) (inner := [.int .i64 x182000_1, .int .i64 x182001_1, .bool x182002_1, .int .i64 x182003_1, .string x182004_1, .bool x182005_1, .int .i64 x182006_1, .string x182007_1]) (ok := fun _ => True) (okp := fun _ => True) ?hr ?hp (fun _ hk => hk) trivial (Below.refl _ _) (Nat.le_refl _) (by simp) ?_; (case hd => rfl); (case hg => rfl); (case hr => first | (go_simp; done) | (go_simp; rfl)); (case hp => exact (Reps.c8 (show Kd.M k38 _ _ _ (⟨x182000_1, x182001_1, (⟨x182002_1, x182003_1, x182004_1⟩ : S36), (⟨x182005_1, x182006_1, x182007_1⟩ : S36)⟩ : S38) [.int .i64 x182000_1, .int .i64 x182001_1, .bool x182002_1, .int .i64 x182003_1, .string x182004_1, .bool x182005_1, .int .i64 x182006_1, .string x182007_1] from (k38_mkM _ _ _ (⟨x182000_1, x182001_1, (⟨x182002_1, x182003_1, x182004_1⟩ : S36), (⟨x182005_1, x182006_1, x182007_1⟩ : S36)⟩ : S38) )) (Reps.none _ _))); intro v183 w17 ho18 hb hg_ hnew_; clear hg_ hnew_; (first | rw [← Ny182.out] at ho18 | (simp only [Int.reduceToNat] at ho18; rw [← Ny182.out] at ho18)); have n0_ := Aside0.mk (Kd.R_elder' (by (with_reducible repeat (first | apply Kd.R_alloc | apply Kd.R_drewN | apply Kd.R_drew)); exact HO_5.out) (Kd.R_base ho18) hb); have n1_ := Aside0.mk (Kd.R_lower (Kd.R_newB (Kd.R_new' ho18 (Kd.R_lt (by (with_reducible repeat (first | apply Kd.R_alloc | apply Kd.R_drewN | apply Kd.R_drew)); exact HO_5.out))) (g := gb181) (o := .cells #[.int .i64 x182000_1, .int .i64 x182001_1, .bool x182002_1, .int .i64 x182003_1, .string x182004_1, .bool x182005_1, .int .i64 x182006_1, .string x182007_1] 38 (0, 0)) (by (with_reducible repeat (first | refine blk_drewN ?_ _ | refine blk_drew ?_ | refine blk_alloc ?_ _)); exact BK181.out)) (below_size (by with_reducible repeat first | exact HB.out | apply below_alloc | apply pw_below_drewN | apply below_drew1 | refine below_set ?_ GE181.out))); have n2_ := Aside0.mk (blk_below (g := gb181) (o := .cells #[.int .i64 x182000_1, .int .i64 x182001_1, .bool x182002_1, .int .i64 x182003_1, .string x182004_1, .bool x182005_1, .int .i64 x182006_1, .string x182007_1] 38 (0, 0)) (by (with_reducible repeat (first | refine blk_drewN ?_ _ | refine blk_drew ?_ | refine blk_alloc ?_ _)); exact BK181.out) hb); have n3_ := Aside0.mk (below_step (by with_reducible repeat first | exact HB.out | apply below_alloc | apply pw_below_drewN | apply below_drew1 | refine below_set ?_ GE181.out) hb); clear HO_5; clear BK181; clear HB; have HO_5 := n0_; have HO184 := n1_; have BK181 := n2_; have HB := n3_; clear n0_ n1_ n2_ n3_; clear hb ho18))
      go_ret
      exact ⟨_, by first | rfl | (simp [errW_none, errW_some] <;> rfl) | (simp [*, errW_none, errW_some] <;> rfl), by (with_reducible repeat (first | apply Kd.R_alloc | apply Kd.R_drewN | apply Kd.R_drew)); exact Kd.R_mono HO184.out (fun _ hk => trivial), by repeat (first | (with_reducible first | exact HB.out | apply below_alloc | apply pw_below_drewN | apply below_drew1 | refine below_set ?_ GE181.out) | exact HB.out)⟩
  ·rw [if_neg c5] at H
   exact absurd H (by simp)
 ·rw [if_neg c4] at H
  have c4b0 : decide (0 < a1) = false := decide_eq_false c4
  clear c4
  have H' := Aside0.mk H
  clear H
  go_enter Try.func38, Try.ntmps38
  go_wp2_with (first | ((with_reducible refine gate_callee (f := 23) rfl ?_); refine goesL_ (some 13) rfl rfl Try.func23 (by kernel_rfl) rfl #[.slice A0 l0.length c0, .int .i64 a1] rfl (by (try simp only [List.map_toArray, List.map_cons, List.map_nil]); first | done | rfl | (simp only [List.length_drop, List.length_take]; rfl)) ?_; (with_reducible refine (tithebarnref17_Of.calls k _ _ l0 a1 t177 _ ?side1 ?side2 A3.out).mono ?_); (case side1 => repeat (first | exact HR0.out | (with_reducible refine Kd.C_alloc ?_ _) | (with_reducible refine Kd.C_drewN ?_ _) | (with_reducible refine Kd.C_drew ?_))); (case side2 => exact HC0.out); rintro e w19 ⟨v178, rfl, ho0, hb⟩; refine ⟨_, rfl, ?_⟩; have n0_ := Aside0.mk (Kd.R_lower ho0 (below_size (by with_reducible repeat first | exact HB.out | apply below_alloc | apply pw_below_drewN | apply below_drew1))); have n1_ := Aside0.mk (below_step (by with_reducible repeat first | exact HB.out | apply below_alloc | apply pw_below_drewN | apply below_drew1) hb); clear HB; have HO179 := n0_; have HB := n1_; clear n0_ n1_; (try clear hb); (try clear hb2); (try clear hk); (try clear hi); (try clear ho0)))
  go_loopg [8, 9] k (fun kq v8 v9 w' => ∃ (x8_1 : List (S38)) (x9_1 : Int), v9 = .int .i64 x9_1 ∧ Aside0 (tithebarnref17_chosen.l1 kq t177 x8_1 x9_1 = some r) ∧ Aside0 (kq ≤ k) ∧ Aside0 (Kd.R k38 38 w' w.heap.size (fun k_ => some k_ ≠ (v8 : Value).ownBlock) v178 t177) ∧ Aside0 (Kd.R k38 38 w' w.heap.size (fun k_ => some k_ ≠ (v178 : Value).ownBlock) v8 x8_1) ∧ Aside0 (Below w.heap.size w w'))
  case atStart => exact ⟨(([] : List (S38))), (0), (by first | rfl | (simp; done) | (simp [*]; done)), H', ⟨Nat.le_refl _⟩, ⟨by (with_reducible repeat (first | apply Kd.R_alloc | apply Kd.R_drewN | apply Kd.R_drew)); exact Kd.R_mono HO179.out (fun _ hk => (by simp [Value.ownBlock]))⟩, ⟨by first | exact Kd.R_nil _ _ _ _ _ | exact Kd.N_nil _ _ _ _ _ | exact Kd.V_nil _ _ _ _ _ | exact Kd.Q_nil _ _ _ _ _ | exact Kd.S_nil _ _ _ _ _⟩, ⟨by repeat (first | (with_reducible first | exact HB.out | apply below_alloc | apply pw_below_drewN | apply below_drew1) | exact HB.out)⟩⟩
  case round =>
   clear H'
   try clear c1
   try clear p1
   try clear q1
   try clear hx1
   try clear qi1
   try clear c2
   try clear p2
   try clear c3
   try clear c4
   try clear c4b0
   try clear c5
   try clear c5b0
   try clear c5b1
   try clear p6
   try clear c8
   try clear c10
   try clear c10b0
   try clear c11
   try clear c11b0
   try clear c12
   try clear c12b0
   try clear p18
   try clear q18
   try clear hx18
   try clear qi18
   try clear hcz14_0 hcz14_1 hcz14_2 hcz14_3 hcz14_4 hcz14_5 hcz14_6 hcz14_7
   try clear hcz16_0 hcz16_1 hcz16_2 hcz16_3 hcz16_4 hcz16_5 hcz16_6 hcz16_7
   try clear hcz9_0 hcz9_1 hcz9_2 hcz9_3 hcz9_4 hcz9_5 hcz9_6 hcz9_7
   try clear hfz14_0 hfz14_1 hfz14_2 hfz14_3 hfz14_4 hfz14_5 hfz14_6 hfz14_7
   try clear hfz16_0 hfz16_1 hfz16_2 hfz16_3 hfz16_4 hfz16_5 hfz16_6 hfz16_7
   try clear hfz9_0 hfz9_1 hfz9_2 hfz9_3 hfz9_4 hfz9_5 hfz9_6 hfz9_7
   try clear hx180_0 hx180_1 hx180_2 hx180_3 hx180_4 hx180_5 hx180_6 hx180_7
   try clear hx185_0 hx185_1 hx185_2 hx185_3 hx185_4 hx185_5 hx185_6 hx185_7
   try clear hx186_0 hx186_1 hx186_2 hx186_3 hx186_4 hx186_5 hx186_6 hx186_7
   try clear p1
   try clear p180
   try clear p185
   try clear p186
   try clear p2
   try clear q1
   try clear q180
   try clear q185
   try clear q186
   obtain ⟨x8_1, x9_1, rfl, HA, HK1, HO_5, HO_8, HB⟩ := hrel
   cases gk with
   | zero => exact absurd HA.out (by simp [tithebarnref17_chosen.l1])
   | succ k1 =>
    have H := HA.out
    clear HA
    simp only [tithebarnref17_chosen.l1] at H
    by_cases c20 : x9_1 < (t177.length : Int)
    ·rw [if_pos c20] at H
     have c20b0 : decide (x9_1 < (t177.length : Int)) = true := decide_eq_true c20
     clear c20
     have H' := Aside0.mk H
     clear H
     obtain ⟨Ao21, co21, eo21⟩ := Kd.R_slice HO_5.out
     subst eo21
     go_wp2
     go_loopg [10] k1 (fun kq v10 w' => ∃ (x10_2 : Int), v10 = .int .i64 x10_2 ∧ Aside0 (tithebarnref17_chosen.l2 kq t177 x8_1 x9_1 x10_2 = some r) ∧ Aside0 (kq ≤ k1) ∧ Aside0 (Kd.R k38 38 w' w.heap.size (fun k_ => some k_ ≠ (u8 : Value).ownBlock) (.slice Ao21 t177.length co21) t177) ∧ Aside0 (Kd.R k38 38 w' w.heap.size (fun k_ => some k_ ≠ ((.slice Ao21 t177.length co21) : Value).ownBlock) u8 x8_1) ∧ Aside0 (Below w.heap.size w w'))
     case atStart => exact ⟨(0), (by first | rfl | (simp; done) | (simp [*]; done)), H', ⟨Nat.le_refl _⟩, ⟨by (with_reducible repeat (first | apply Kd.R_alloc | apply Kd.R_drewN | apply Kd.R_drew)); exact HO_5.out⟩, ⟨by (with_reducible repeat (first | apply Kd.R_alloc | apply Kd.R_drewN | apply Kd.R_drew)); exact HO_8.out⟩, ⟨by repeat (first | (with_reducible first | exact HB.out | apply below_alloc | apply pw_below_drewN | apply below_drew1) | exact HB.out)⟩⟩
     case round =>
      clear H'
      try clear c1
      try clear p1
      try clear q1
      try clear hx1
      try clear qi1
      try clear c2
      try clear p2
      try clear c3
      try clear c4
      try clear c4b0
      try clear c5
      try clear c5b0
      try clear c5b1
      try clear p6
      try clear c8
      try clear c10
      try clear c10b0
      try clear c11
      try clear c11b0
      try clear c12
      try clear c12b0
      try clear p18
      try clear q18
      try clear hx18
      try clear qi18
      try clear c20
      try clear c20b0
      try clear hcz14_0 hcz14_1 hcz14_2 hcz14_3 hcz14_4 hcz14_5 hcz14_6 hcz14_7
      try clear hcz16_0 hcz16_1 hcz16_2 hcz16_3 hcz16_4 hcz16_5 hcz16_6 hcz16_7
      try clear hcz9_0 hcz9_1 hcz9_2 hcz9_3 hcz9_4 hcz9_5 hcz9_6 hcz9_7
      try clear hfz14_0 hfz14_1 hfz14_2 hfz14_3 hfz14_4 hfz14_5 hfz14_6 hfz14_7
      try clear hfz16_0 hfz16_1 hfz16_2 hfz16_3 hfz16_4 hfz16_5 hfz16_6 hfz16_7
      try clear hfz9_0 hfz9_1 hfz9_2 hfz9_3 hfz9_4 hfz9_5 hfz9_6 hfz9_7
      try clear hx180_0 hx180_1 hx180_2 hx180_3 hx180_4 hx180_5 hx180_6 hx180_7
      try clear hx185_0 hx185_1 hx185_2 hx185_3 hx185_4 hx185_5 hx185_6 hx185_7
      try clear hx186_0 hx186_1 hx186_2 hx186_3 hx186_4 hx186_5 hx186_6 hx186_7
      try clear p1
      try clear p18
      try clear p180
      try clear p185
      try clear p186
      try clear p2
      try clear p6
      try clear q1
      try clear q18
      try clear q180
      try clear q185
      try clear q186
      obtain ⟨x10_2, rfl, HA, HK2, HO_5, HO_8, HB⟩ := hrel
      cases gk with
      | zero => exact absurd HA.out (by simp [tithebarnref17_chosen.l2])
      | succ k2 =>
       have H := HA.out
       clear HA
       simp only [tithebarnref17_chosen.l2] at H
       have HC22 := Aside0.mk H
       clear H
       go_upto_region 15 with (fail)
       go_cut [61] (fun v61 wc => ∃ (kq : Nat) (x61_21 : Bool), v61 = .bool x61_21 ∧ Aside0 (tithebarnref17_chosen.j3 kq t177 x8_1 x9_1 x10_2 x61_21 = some r) ∧ Aside0 (kq ≤ k2) ∧ Aside0 (Kd.R k38 38 wc w.heap.size (fun k_ => some k_ ≠ (u8 : Value).ownBlock) (.slice Ao21 t177.length co21) t177) ∧ Aside0 (Kd.R k38 38 wc w.heap.size (fun k_ => some k_ ≠ ((.slice Ao21 t177.length co21) : Value).ownBlock) u8 x8_1) ∧ Aside0 (Below w.heap.size w wc))
       case first =>
        have H := HC22.out
        clear HC22
        by_cases c23 : x10_2 < (x8_1.length : Int)
        ·rw [if_pos c23] at H
         have c23b0 : decide (x10_2 < (x8_1.length : Int)) = true := decide_eq_true c23
         clear c23
         (first | rw [c23b0] | (simp only [i64_w, i32_w]; rw [c23b0]) | skip)
         by_cases c24 : 0 ≤ x10_2
         ·rw [if_pos c24] at H
          have c24b0 : decide (0 ≤ x10_2) = true := decide_eq_true c24
          clear c24
          by_cases c25 : 0 ≤ x9_1
          ·rw [if_pos c25] at H
           have c25b0 : decide (0 ≤ x9_1) = true := decide_eq_true c25
           clear c25
           by_cases c26 : x9_1 < (t177.length : Int)
           ·rw [if_pos c26] at H
            have c26b0 : decide (x9_1 < (t177.length : Int)) = true := decide_eq_true c26
            clear c26
            have H' := Aside0.mk H
            clear H
            try go_wp2
            have n0_ := Aside0.mk (Kd.R_drew HO_5.out)
            have n1_ := Aside0.mk (Kd.R_drew HO_8.out)
            have n2_ := Aside0.mk (below_drew1 HB.out)
            clear HO_5
            clear HO_8
            clear HB
            have HO_5 := n0_
            have HO_8 := n1_
            have HB := n2_
            clear n0_ n1_ n2_
            obtain ⟨Ao28, co28, eo28⟩ := Kd.R_slice HO_8.out
            (first | subst eo28 | (injection eo28 with f1_ f2_ f3_; have f4_ := f1_.symm; have f5_ := f3_.symm; clear f1_ f2_ f3_; subst f4_; subst f5_))
            have p187 : 0 ≤ (x10_2 : Int) := of_decide_eq_true (by with_reducible assumption)
            have q187 : x10_2 < (x8_1.length : Int) := of_decide_eq_true (by with_reducible assumption)
            obtain ⟨ad187, e187, hx187_0, hx187_1, hx187_2, hx187_3, hx187_4, hx187_5, hx187_6, hx187_7⟩ := at_T38 (Kd.R_reads' HO_8.out).2.2 x10_2 p187 q187
            cases e187
            replace p187 := eq_true p187
            replace q187 := eq_true q187
            have p188 : 0 ≤ (x9_1 : Int) := of_decide_eq_true (by with_reducible assumption)
            have q188 : x9_1 < (t177.length : Int) := of_decide_eq_true (by with_reducible assumption)
            obtain ⟨ad188, e188, hx188_0, hx188_1, hx188_2, hx188_3, hx188_4, hx188_5, hx188_6, hx188_7⟩ := at_T38 (Kd.R_reads' HO_5.out).2.2 x9_1 p188 q188
            cases e188
            replace p188 := eq_true p188
            replace q188 := eq_true q188
            refine start_ (n := 17) (S := fun w' => w'.cell? (ad187.add ((x10_2).toNat * 8)) = some (.int .i64 ((rd_T38 x8_1 x10_2).f0)) ∧ w'.cell? ⟨(ad187.add ((x10_2).toNat * 8)).block, (ad187.add ((x10_2).toNat * 8)).off + 1, none⟩ = some (.int .i64 ((rd_T38 x8_1 x10_2).f1)) ∧ w'.cell? ⟨(ad187.add ((x10_2).toNat * 8)).block, (ad187.add ((x10_2).toNat * 8)).off + 2, none⟩ = some (.bool ((rd_T38 x8_1 x10_2).f2.f0)) ∧ w'.cell? ⟨(ad187.add ((x10_2).toNat * 8)).block, (ad187.add ((x10_2).toNat * 8)).off + 3, none⟩ = some (.int .i64 ((rd_T38 x8_1 x10_2).f2.f1)) ∧ w'.cell? ⟨(ad187.add ((x10_2).toNat * 8)).block, (ad187.add ((x10_2).toNat * 8)).off + 4, none⟩ = some (.string ((rd_T38 x8_1 x10_2).f2.f2)) ∧ w'.cell? ⟨(ad187.add ((x10_2).toNat * 8)).block, (ad187.add ((x10_2).toNat * 8)).off + 5, none⟩ = some (.bool ((rd_T38 x8_1 x10_2).f3.f0)) ∧ w'.cell? ⟨(ad187.add ((x10_2).toNat * 8)).block, (ad187.add ((x10_2).toNat * 8)).off + 6, none⟩ = some (.int .i64 ((rd_T38 x8_1 x10_2).f3.f1)) ∧ w'.cell? ⟨(ad187.add ((x10_2).toNat * 8)).block, (ad187.add ((x10_2).toNat * 8)).off + 7, none⟩ = some (.string ((rd_T38 x8_1 x10_2).f3.f2)) ∧ w'.cell? (ad188.add ((x9_1).toNat * 8)) = some (.int .i64 ((rd_T38 t177 x9_1).f0)) ∧ w'.cell? ⟨(ad188.add ((x9_1).toNat * 8)).block, (ad188.add ((x9_1).toNat * 8)).off + 1, none⟩ = some (.int .i64 ((rd_T38 t177 x9_1).f1)) ∧ w'.cell? ⟨(ad188.add ((x9_1).toNat * 8)).block, (ad188.add ((x9_1).toNat * 8)).off + 2, none⟩ = some (.bool ((rd_T38 t177 x9_1).f2.f0)) ∧ w'.cell? ⟨(ad188.add ((x9_1).toNat * 8)).block, (ad188.add ((x9_1).toNat * 8)).off + 3, none⟩ = some (.int .i64 ((rd_T38 t177 x9_1).f2.f1)) ∧ w'.cell? ⟨(ad188.add ((x9_1).toNat * 8)).block, (ad188.add ((x9_1).toNat * 8)).off + 4, none⟩ = some (.string ((rd_T38 t177 x9_1).f2.f2)) ∧ w'.cell? ⟨(ad188.add ((x9_1).toNat * 8)).block, (ad188.add ((x9_1).toNat * 8)).off + 5, none⟩ = some (.bool ((rd_T38 t177 x9_1).f3.f0)) ∧ w'.cell? ⟨(ad188.add ((x9_1).toNat * 8)).block, (ad188.add ((x9_1).toNat * 8)).off + 6, none⟩ = some (.int .i64 ((rd_T38 t177 x9_1).f3.f1)) ∧ w'.cell? ⟨(ad188.add ((x9_1).toNat * 8)).block, (ad188.add ((x9_1).toNat * 8)).off + 7, none⟩ = some (.string ((rd_T38 t177 x9_1).f3.f2))) (ds := []) #[false, false, false, false, false, false, false, false, false, false, false, false, false, false, false, false, false] (by kernel_rfl) rfl rfl ⟨hx187_0, hx187_1, hx187_2, hx187_3, hx187_4, hx187_5, hx187_6, hx187_7, hx188_0, hx188_1, hx188_2, hx188_3, hx188_4, hx188_5, hx188_6, hx188_7⟩ (fun hHeld => ?_); refine with_tabW tithebarnref17_chosen.tab15 tithebarnref17_chosen.bits15 (fun HT_ HW_ => ?_)
            generalize wr.drew = w27 at HO_5 HO_8 HB hx187_0 hx187_1 hx187_2 hx187_3 hx187_4 hx187_5 hx187_6 hx187_7 hx188_0 hx188_1 hx188_2 hx188_3 hx188_4 hx188_5 hx188_6 hx188_7 hHeld ⊢
            refine pure_ (i := 0) (N := some 45) (v := ?_) (a' := ?_) #[true, false, false, false, false, false, false, false, false, false, false, false, false, false, false, false, false] rfl rfl (any_of HT_.out (by kernel_rfl)) (fun _ _ _ h => h) (Or.inl ⟨by rfl, ?_⟩) ?_ ?_
            rotate_left
            ·intro w'
             go_simp
             with_reducible rfl
            rotate_left
            ·simp only [Act.put, List.setIfInBounds_toArray, List.set_cons_zero, List.set_cons_succ, i64_w, i32_w]
             rfl
            refine pure_ (i := 1) (N := some 46) (v := ?_) (a' := ?_) #[true, true, false, false, false, false, false, false, false, false, false, false, false, false, false, false, false] rfl rfl (any_of HT_.out (by kernel_rfl)) (fun _ _ _ h => h) (Or.inl ⟨by rfl, ?_⟩) ?_ ?_
            rotate_left
            ·intro w'
             go_simp
             with_reducible rfl
            rotate_left
            ·simp only [Act.put, List.setIfInBounds_toArray, List.set_cons_zero, List.set_cons_succ, i64_w, i32_w]
             rfl
            refine pure_ (i := 2) (N := some 47) (v := ?_) (a' := ?_) #[true, true, true, false, false, false, false, false, false, false, false, false, false, false, false, false, false] rfl rfl (any_of HT_.out (by kernel_rfl)) (fun _ _ _ h => h) (Or.inl ⟨by rfl, ?_⟩) ?_ ?_
            rotate_left
            ·intro w'
             go_simp
             with_reducible rfl
            rotate_left
            ·simp only [Act.put, List.setIfInBounds_toArray, List.set_cons_zero, List.set_cons_succ, i64_w, i32_w]
             rfl
            refine pure_ (i := 3) (N := some 48) (v := ?_) (a' := ?_) #[true, true, true, true, false, false, false, false, false, false, false, false, false, false, false, false, false] rfl rfl (any_of HT_.out (by kernel_rfl)) (fun _ _ _ h => h) (Or.inl ⟨by rfl, ?_⟩) ?_ ?_
            rotate_left
            ·intro w'
             go_simp
             with_reducible rfl
            rotate_left
            ·simp only [Act.put, List.setIfInBounds_toArray, List.set_cons_zero, List.set_cons_succ, i64_w, i32_w]
             rfl
            refine pure_ (i := 4) (N := some 49) (v := ?_) (a' := ?_) #[true, true, true, true, true, false, false, false, false, false, false, false, false, false, false, false, false] rfl rfl (any_of HT_.out (by kernel_rfl)) (fun _ _ _ h => h) (Or.inl ⟨by rfl, ?_⟩) ?_ ?_
            rotate_left
            ·intro w'
             go_simp
             with_reducible rfl
            rotate_left
            ·simp only [Act.put, List.setIfInBounds_toArray, List.set_cons_zero, List.set_cons_succ, i64_w, i32_w]
             rfl
            refine pure_ (i := 5) (N := some 50) (v := ?_) (a' := ?_) #[true, true, true, true, true, true, false, false, false, false, false, false, false, false, false, false, false] rfl rfl (any_of HT_.out (by kernel_rfl)) (fun _ _ _ h => h) (Or.inl ⟨by rfl, ?_⟩) ?_ ?_
            rotate_left
            ·intro w'
             go_simp
             with_reducible rfl
            rotate_left
            ·simp only [Act.put, List.setIfInBounds_toArray, List.set_cons_zero, List.set_cons_succ, i64_w, i32_w]
             rfl
            refine pure_ (i := 6) (N := some 51) (v := ?_) (a' := ?_) #[true, true, true, true, true, true, true, false, false, false, false, false, false, false, false, false, false] rfl rfl (any_of HT_.out (by kernel_rfl)) (fun _ _ _ h => h) (Or.inl ⟨by rfl, ?_⟩) ?_ ?_
            rotate_left
            ·intro w'
             go_simp
             with_reducible rfl
            rotate_left
            ·simp only [Act.put, List.setIfInBounds_toArray, List.set_cons_zero, List.set_cons_succ, i64_w, i32_w]
             rfl
            refine pure_ (i := 7) (N := some 52) (v := ?_) (a' := ?_) #[true, true, true, true, true, true, true, true, false, false, false, false, false, false, false, false, false] rfl rfl (any_of HT_.out (by kernel_rfl)) (fun _ _ _ h => h) (Or.inl ⟨by rfl, ?_⟩) ?_ ?_
            rotate_left
            ·intro w'
             go_simp
             with_reducible rfl
            rotate_left
            ·simp only [Act.put, List.setIfInBounds_toArray, List.set_cons_zero, List.set_cons_succ, i64_w, i32_w]
             rfl
            refine pure_ (i := 8) (N := some 53) (v := ?_) (a' := ?_) #[true, true, true, true, true, true, true, true, true, false, false, false, false, false, false, false, false] rfl rfl (any_of HT_.out (by kernel_rfl)) (fun _ _ _ h => h) (Or.inl ⟨by rfl, ?_⟩) ?_ ?_
            rotate_left
            ·intro w'
             go_simp
             with_reducible rfl
            rotate_left
            ·simp only [Act.put, List.setIfInBounds_toArray, List.set_cons_zero, List.set_cons_succ, i64_w, i32_w]
             rfl
            refine pure_ (i := 10) (N := some 55) (v := ?_) (a' := ?_) #[true, true, true, true, true, true, true, true, true, false, true, false, false, false, false, false, false] rfl rfl (any_of HT_.out (by kernel_rfl)) (fun _ _ _ h => h) (Or.inl ⟨by rfl, ?_⟩) ?_ ?_
            rotate_left
            ·intro w'
             go_simp
             with_reducible rfl
            rotate_left
            ·simp only [Act.put, List.setIfInBounds_toArray, List.set_cons_zero, List.set_cons_succ, i64_w, i32_w]
             rfl
            refine pure_ (i := 11) (N := some 56) (v := ?_) (a' := ?_) #[true, true, true, true, true, true, true, true, true, false, true, true, false, false, false, false, false] rfl rfl (any_of HT_.out (by kernel_rfl)) (fun _ _ _ h => h) (Or.inl ⟨by rfl, ?_⟩) ?_ ?_
            rotate_left
            ·intro w'
             go_simp
             with_reducible rfl
            rotate_left
            ·simp only [Act.put, List.setIfInBounds_toArray, List.set_cons_zero, List.set_cons_succ, i64_w, i32_w]
             rfl
            refine pure_ (i := 12) (N := some 57) (v := ?_) (a' := ?_) #[true, true, true, true, true, true, true, true, true, false, true, true, true, false, false, false, false] rfl rfl (any_of HT_.out (by kernel_rfl)) (fun _ _ _ h => h) (Or.inl ⟨by rfl, ?_⟩) ?_ ?_
            rotate_left
            ·intro w'
             go_simp
             with_reducible rfl
            rotate_left
            ·simp only [Act.put, List.setIfInBounds_toArray, List.set_cons_zero, List.set_cons_succ, i64_w, i32_w]
             rfl
            refine pure_ (i := 13) (N := some 58) (v := ?_) (a' := ?_) #[true, true, true, true, true, true, true, true, true, false, true, true, true, true, false, false, false] rfl rfl (any_of HT_.out (by kernel_rfl)) (fun _ _ _ h => h) (Or.inl ⟨by rfl, ?_⟩) ?_ ?_
            rotate_left
            ·intro w'
             go_simp
             with_reducible rfl
            rotate_left
            ·simp only [Act.put, List.setIfInBounds_toArray, List.set_cons_zero, List.set_cons_succ, i64_w, i32_w]
             rfl
            refine take_ (i := 9) (N := some 54) (v := ?_) (a' := ?_) #[true, true, true, true, true, true, true, true, true, true, true, true, true, true, false, false, false] rfl rfl (take_ofW HT_.out HW_.out (by kernel_rfl)) (fun _ _ _ h => h) (Or.inl ⟨by rfl, ?_⟩) hHeld ?_ ?_
            rotate_left
            ·rintro w' ⟨s0, s1, s2, s3, s4, s5, s6, s7, s8, s9, s10, s11, s12, s13, s14, s15⟩
             go_simp
             with_reducible rfl
            rotate_left
            ·simp only [Act.put, List.setIfInBounds_toArray, List.set_cons_zero, List.set_cons_succ, i64_w, i32_w]
             rfl
            refine take_ (i := 14) (N := some 59) (v := ?_) (a' := ?_) #[true, true, true, true, true, true, true, true, true, true, true, true, true, true, true, false, false] rfl rfl (take_ofW HT_.out HW_.out (by kernel_rfl)) (fun _ _ _ h => h) (Or.inl ⟨by rfl, ?_⟩) hHeld ?_ ?_
            rotate_left
            ·rintro w' ⟨s0, s1, s2, s3, s4, s5, s6, s7, s8, s9, s10, s11, s12, s13, s14, s15⟩
             go_simp
             with_reducible rfl
            rotate_left
            ·simp only [Act.put, List.setIfInBounds_toArray, List.set_cons_zero, List.set_cons_succ, i64_w, i32_w]
             rfl
            refine pure_ (i := 15) (N := some 60) (v := ?_) (a' := ?_) #[true, true, true, true, true, true, true, true, true, true, true, true, true, true, true, true, false] rfl rfl (any_of HT_.out (by kernel_rfl)) (fun _ _ _ h => h) (Or.inl ⟨by rfl, ?_⟩) ?_ ?_
            rotate_left
            ·intro w'
             go_simp
             with_reducible rfl
            rotate_left
            ·simp only [Act.put, List.setIfInBounds_toArray, List.set_cons_zero, List.set_cons_succ, i64_w, i32_w]
             rfl
            refine pure_ (i := 16) (N := some 61) (v := ?_) (a' := ?_) #[true, true, true, true, true, true, true, true, true, true, true, true, true, true, true, true, true] rfl rfl (any_of HT_.out (by kernel_rfl)) (fun _ _ _ h => h) (Or.inl ⟨by rfl, ?_⟩) ?_ ?_
            rotate_left
            ·intro w'
             go_simp
             with_reducible rfl
            rotate_left
            ·simp only [Act.put, List.setIfInBounds_toArray, List.set_cons_zero, List.set_cons_succ, i64_w, i32_w]
             rfl
            refine done_ (done_of HT_.out (by kernel_rfl)) ?_
            try go_wp2
            go_meet
            case rel => exact ⟨_, (decide (((rd_T38 x8_1 x10_2).f0) ≥ ((rd_T38 t177 x9_1).f0))), (by first | rfl | (simp; done) | (simp [*]; done)), H', ⟨by have := HK1.out; have := HK2.out; first | omega | exact Nat.le_refl _⟩, ⟨by (with_reducible repeat (first | apply Kd.R_alloc | apply Kd.R_drewN | apply Kd.R_drew)); exact HO_5.out⟩, ⟨by (with_reducible repeat (first | apply Kd.R_alloc | apply Kd.R_drewN | apply Kd.R_drew)); exact HO_8.out⟩, ⟨by repeat (first | (with_reducible first | exact HB.out | apply below_alloc | apply pw_below_drewN | apply below_drew1) | exact HB.out)⟩⟩
           ·rw [if_neg c26] at H
            exact absurd H (by simp)
          ·rw [if_neg c25] at H
           exact absurd H (by simp)
         ·rw [if_neg c24] at H
          exact absurd H (by simp)
        ·rw [if_neg c23] at H
         have c23b0 : decide (x10_2 < (x8_1.length : Int)) = false := decide_eq_false c23
         clear c23
         (first | rw [c23b0] | (simp only [i64_w, i32_w]; rw [c23b0]) | skip)
         have H' := Aside0.mk H
         clear H
         try go_wp2
         have n0_ := Aside0.mk (Kd.R_drew HO_5.out)
         have n1_ := Aside0.mk (Kd.R_drew HO_8.out)
         have n2_ := Aside0.mk (below_drew1 HB.out)
         clear HO_5
         clear HO_8
         clear HB
         have HO_5 := n0_
         have HO_8 := n1_
         have HB := n2_
         clear n0_ n1_ n2_
         obtain ⟨Ao30, co30, eo30⟩ := Kd.R_slice HO_8.out
         (first | subst eo30 | (injection eo30 with f1_ f2_ f3_; have f4_ := f1_.symm; have f5_ := f3_.symm; clear f1_ f2_ f3_; subst f4_; subst f5_))
         refine start_ (n := 17) (S := fun w' => True) (ds := []) #[false, false, false, false, false, false, false, false, false, false, false, false, false, false, false, false, false] (by kernel_rfl) rfl rfl trivial (fun hHeld => ?_); refine with_tabW tithebarnref17_chosen.tab15 tithebarnref17_chosen.bits15 (fun HT_ HW_ => ?_)
         generalize wr.drew = w29 at HO_5 HO_8 HB hHeld ⊢
         refine pure_ (i := 0) (N := some 45) (v := ?_) (a' := ?_) #[true, false, false, false, false, false, false, false, false, false, false, false, false, false, false, false, false] rfl rfl (any_of HT_.out (by kernel_rfl)) (fun _ _ _ h => h) (Or.inl ⟨by rfl, ?_⟩) ?_ ?_
         rotate_left
         ·intro w'
          go_simp
          with_reducible rfl
         rotate_left
         ·simp only [Act.put, List.setIfInBounds_toArray, List.set_cons_zero, List.set_cons_succ, i64_w, i32_w]
          rfl
         refine pure_ (i := 1) (N := some 46) (v := ?_) (a' := ?_) #[true, true, false, false, false, false, false, false, false, false, false, false, false, false, false, false, false] rfl rfl (any_of HT_.out (by kernel_rfl)) (fun _ _ _ h => h) (Or.inl ⟨by rfl, ?_⟩) ?_ ?_
         rotate_left
         ·intro w'
          go_simp
          with_reducible rfl
         rotate_left
         ·simp only [Act.put, List.setIfInBounds_toArray, List.set_cons_zero, List.set_cons_succ, i64_w, i32_w]
          rfl
         refine pure_ (i := 2) (N := some 47) (v := ?_) (a' := ?_) #[true, true, true, false, false, false, false, false, false, false, false, false, false, false, false, false, false] rfl rfl (any_of HT_.out (by kernel_rfl)) (fun _ _ _ h => h) (Or.inl ⟨by rfl, ?_⟩) ?_ ?_
         rotate_left
         ·intro w'
          go_simp
          with_reducible rfl
         rotate_left
         ·simp only [Act.put, List.setIfInBounds_toArray, List.set_cons_zero, List.set_cons_succ, i64_w, i32_w]
          rfl
         refine pure_ (i := 3) (N := some 48) (v := ?_) (a' := ?_) #[true, true, true, true, false, false, false, false, false, false, false, false, false, false, false, false, false] rfl rfl (any_of HT_.out (by kernel_rfl)) (fun _ _ _ h => h) (Or.inl ⟨by rfl, ?_⟩) ?_ ?_
         rotate_left
         ·intro w'
          go_simp
          with_reducible rfl
         rotate_left
         ·simp only [Act.put, List.setIfInBounds_toArray, List.set_cons_zero, List.set_cons_succ, i64_w, i32_w]
          rfl
         refine pure_ (i := 4) (N := some 49) (v := ?_) (a' := ?_) #[true, true, true, true, true, false, false, false, false, false, false, false, false, false, false, false, false] rfl rfl (any_of HT_.out (by kernel_rfl)) (fun _ _ _ h => h) (Or.inl ⟨by rfl, ?_⟩) ?_ ?_
         rotate_left
         ·intro w'
          go_simp
          with_reducible rfl
         rotate_left
         ·simp only [Act.put, List.setIfInBounds_toArray, List.set_cons_zero, List.set_cons_succ, i64_w, i32_w]
          rfl
         refine pure_ (i := 5) (N := some 50) (v := undef) (a' := ?_) #[true, true, true, true, true, true, false, false, false, false, false, false, false, false, false, false, false] rfl rfl (any_of HT_.out (by kernel_rfl)) (fun _ _ _ h => h) (Or.inr ⟨by rfl, rfl⟩) ?_ ?_
         rotate_left
         ·simp only [Act.put, List.setIfInBounds_toArray, List.set_cons_zero, List.set_cons_succ, i64_w, i32_w]
          rfl
         refine pure_ (i := 6) (N := some 51) (v := undef) (a' := ?_) #[true, true, true, true, true, true, true, false, false, false, false, false, false, false, false, false, false] rfl rfl (any_of HT_.out (by kernel_rfl)) (fun _ _ _ h => h) (Or.inr ⟨by rfl, rfl⟩) ?_ ?_
         rotate_left
         ·simp only [Act.put, List.setIfInBounds_toArray, List.set_cons_zero, List.set_cons_succ, i64_w, i32_w]
          rfl
         refine pure_ (i := 7) (N := some 52) (v := undef) (a' := ?_) #[true, true, true, true, true, true, true, true, false, false, false, false, false, false, false, false, false] rfl rfl (any_of HT_.out (by kernel_rfl)) (fun _ _ _ h => h) (Or.inr ⟨by rfl, rfl⟩) ?_ ?_
         rotate_left
         ·simp only [Act.put, List.setIfInBounds_toArray, List.set_cons_zero, List.set_cons_succ, i64_w, i32_w]
          rfl
         refine pure_ (i := 8) (N := some 53) (v := undef) (a' := ?_) #[true, true, true, true, true, true, true, true, true, false, false, false, false, false, false, false, false] rfl rfl (any_of HT_.out (by kernel_rfl)) (fun _ _ _ h => h) (Or.inr ⟨by rfl, rfl⟩) ?_ ?_
         rotate_left
         ·simp only [Act.put, List.setIfInBounds_toArray, List.set_cons_zero, List.set_cons_succ, i64_w, i32_w]
          rfl
         refine pure_ (i := 9) (N := some 54) (v := undef) (a' := ?_) #[true, true, true, true, true, true, true, true, true, true, false, false, false, false, false, false, false] rfl rfl (any_of HT_.out (by kernel_rfl)) (fun _ _ _ h => h) (Or.inr ⟨by rfl, rfl⟩) ?_ ?_
         rotate_left
         ·simp only [Act.put, List.setIfInBounds_toArray, List.set_cons_zero, List.set_cons_succ, i64_w, i32_w]
          rfl
         refine pure_ (i := 10) (N := some 55) (v := undef) (a' := ?_) #[true, true, true, true, true, true, true, true, true, true, true, false, false, false, false, false, false] rfl rfl (any_of HT_.out (by kernel_rfl)) (fun _ _ _ h => h) (Or.inr ⟨by rfl, rfl⟩) ?_ ?_
         rotate_left
         ·simp only [Act.put, List.setIfInBounds_toArray, List.set_cons_zero, List.set_cons_succ, i64_w, i32_w]
          rfl
         refine pure_ (i := 11) (N := some 56) (v := undef) (a' := ?_) #[true, true, true, true, true, true, true, true, true, true, true, true, false, false, false, false, false] rfl rfl (any_of HT_.out (by kernel_rfl)) (fun _ _ _ h => h) (Or.inr ⟨by rfl, rfl⟩) ?_ ?_
         rotate_left
         ·simp only [Act.put, List.setIfInBounds_toArray, List.set_cons_zero, List.set_cons_succ, i64_w, i32_w]
          rfl
         refine pure_ (i := 12) (N := some 57) (v := undef) (a' := ?_) #[true, true, true, true, true, true, true, true, true, true, true, true, true, false, false, false, false] rfl rfl (any_of HT_.out (by kernel_rfl)) (fun _ _ _ h => h) (Or.inr ⟨by rfl, rfl⟩) ?_ ?_
         rotate_left
         ·simp only [Act.put, List.setIfInBounds_toArray, List.set_cons_zero, List.set_cons_succ, i64_w, i32_w]
          rfl
         refine pure_ (i := 13) (N := some 58) (v := undef) (a' := ?_) #[true, true, true, true, true, true, true, true, true, true, true, true, true, true, false, false, false] rfl rfl (any_of HT_.out (by kernel_rfl)) (fun _ _ _ h => h) (Or.inr ⟨by rfl, rfl⟩) ?_ ?_
         rotate_left
         ·simp only [Act.put, List.setIfInBounds_toArray, List.set_cons_zero, List.set_cons_succ, i64_w, i32_w]
          rfl
         refine pure_ (i := 14) (N := some 59) (v := undef) (a' := ?_) #[true, true, true, true, true, true, true, true, true, true, true, true, true, true, true, false, false] rfl rfl (any_of HT_.out (by kernel_rfl)) (fun _ _ _ h => h) (Or.inr ⟨by rfl, rfl⟩) ?_ ?_
         rotate_left
         ·simp only [Act.put, List.setIfInBounds_toArray, List.set_cons_zero, List.set_cons_succ, i64_w, i32_w]
          rfl
         refine pure_ (i := 15) (N := some 60) (v := undef) (a' := ?_) #[true, true, true, true, true, true, true, true, true, true, true, true, true, true, true, true, false] rfl rfl (any_of HT_.out (by kernel_rfl)) (fun _ _ _ h => h) (Or.inr ⟨by rfl, rfl⟩) ?_ ?_
         rotate_left
         ·simp only [Act.put, List.setIfInBounds_toArray, List.set_cons_zero, List.set_cons_succ, i64_w, i32_w]
          rfl
         refine pure_ (i := 16) (N := some 61) (v := ?_) (a' := ?_) #[true, true, true, true, true, true, true, true, true, true, true, true, true, true, true, true, true] rfl rfl (any_of HT_.out (by kernel_rfl)) (fun _ _ _ h => h) (Or.inl ⟨by rfl, ?_⟩) ?_ ?_
         rotate_left
         ·intro w'
          go_simp
          with_reducible rfl
         rotate_left
         ·simp only [Act.put, List.setIfInBounds_toArray, List.set_cons_zero, List.set_cons_succ, i64_w, i32_w]
          rfl
         refine done_ (done_of HT_.out (by kernel_rfl)) ?_
         try go_wp2
         go_meet
         case rel => exact ⟨_, (false), (by first | rfl | (simp; done) | (simp [*]; done)), H', ⟨by have := HK1.out; have := HK2.out; first | omega | exact Nat.le_refl _⟩, ⟨by (with_reducible repeat (first | apply Kd.R_alloc | apply Kd.R_drewN | apply Kd.R_drew)); exact HO_5.out⟩, ⟨by (with_reducible repeat (first | apply Kd.R_alloc | apply Kd.R_drewN | apply Kd.R_drew)); exact HO_8.out⟩, ⟨by repeat (first | (with_reducible first | exact HB.out | apply below_alloc | apply pw_below_drewN | apply below_drew1) | exact HB.out)⟩⟩
       case rest =>
        clear HC22
        try clear c1
        try clear p1
        try clear q1
        try clear hx1
        try clear qi1
        try clear c2
        try clear p2
        try clear c3
        try clear c4
        try clear c4b0
        try clear c5
        try clear c5b0
        try clear c5b1
        try clear p6
        try clear c8
        try clear c10
        try clear c10b0
        try clear c11
        try clear c11b0
        try clear c12
        try clear c12b0
        try clear p18
        try clear q18
        try clear hx18
        try clear qi18
        try clear c20
        try clear c20b0
        try clear c23
        try clear c23b0
        try clear c24
        try clear c24b0
        try clear c25
        try clear c25b0
        try clear c26
        try clear c26b0
        try clear hcz14_0 hcz14_1 hcz14_2 hcz14_3 hcz14_4 hcz14_5 hcz14_6 hcz14_7
        try clear hcz16_0 hcz16_1 hcz16_2 hcz16_3 hcz16_4 hcz16_5 hcz16_6 hcz16_7
        try clear hcz9_0 hcz9_1 hcz9_2 hcz9_3 hcz9_4 hcz9_5 hcz9_6 hcz9_7
        try clear hfz14_0 hfz14_1 hfz14_2 hfz14_3 hfz14_4 hfz14_5 hfz14_6 hfz14_7
        try clear hfz16_0 hfz16_1 hfz16_2 hfz16_3 hfz16_4 hfz16_5 hfz16_6 hfz16_7
        try clear hfz9_0 hfz9_1 hfz9_2 hfz9_3 hfz9_4 hfz9_5 hfz9_6 hfz9_7
        try clear hx180_0 hx180_1 hx180_2 hx180_3 hx180_4 hx180_5 hx180_6 hx180_7
        try clear hx185_0 hx185_1 hx185_2 hx185_3 hx185_4 hx185_5 hx185_6 hx185_7
        try clear hx186_0 hx186_1 hx186_2 hx186_3 hx186_4 hx186_5 hx186_6 hx186_7
        try clear hx187_0 hx187_1 hx187_2 hx187_3 hx187_4 hx187_5 hx187_6 hx187_7
        try clear hx188_0 hx188_1 hx188_2 hx188_3 hx188_4 hx188_5 hx188_6 hx188_7
        try clear p1
        try clear p18
        try clear p180
        try clear p185
        try clear p186
        try clear p187
        try clear p188
        try clear p2
        try clear p6
        try clear q1
        try clear q18
        try clear q180
        try clear q185
        try clear q186
        try clear q187
        try clear q188
        obtain ⟨kq, x61_21, rfl, HA, HJ21, HO_5, HO_8, HB⟩ := hcut
        cases kq with
        | zero => exact absurd HA.out (by simp [tithebarnref17_chosen.j3])
        | succ kj21 =>
         have H := HA.out
         clear HA
         simp only [tithebarnref17_chosen.j3] at H
         by_cases c31 : x61_21 = true
         ·subst c31
          have H1 : (tithebarnref17_chosen.l2 kj21 t177 x8_1 x9_1 (wrap64 (x10_2 + 1))) = some r := by rw [if_pos rfl] at H; exact H
          clear H
          have H := H1
          clear H1
          have H' := Aside0.mk H
          clear H
          go_wp2
          go_roundg kj21
          case measure => have := HK1.out; have := HK2.out; have := HJ21.out; omega
          case rel => exact ⟨(wrap64 (x10_2 + 1)), (by first | rfl | (simp; done) | (simp [*]; done)), H', ⟨by have := HK1.out; have := HK2.out; have := HJ21.out; omega⟩, ⟨by (with_reducible repeat (first | apply Kd.R_alloc | apply Kd.R_drewN | apply Kd.R_drew)); exact HO_5.out⟩, ⟨by (with_reducible repeat (first | apply Kd.R_alloc | apply Kd.R_drewN | apply Kd.R_drew)); exact HO_8.out⟩, ⟨by repeat (first | (with_reducible first | exact HB.out | apply below_alloc | apply pw_below_drewN | apply below_drew1) | exact HB.out)⟩⟩
         ·replace c31 := Bool.eq_false_iff.mpr c31
          subst c31
          have H1 : (if 0 ≤ x10_2 then (if x10_2 ≤ (x8_1.length : Int) then ((some (x8_1.take (x10_2 : Int).toNat : List (S38))).bind fun y189 => (if ([] : List (S38)).length + y189.length < 1759218604441 then ((some (([] : List (S38)) ++ y189 : List (S38))).bind fun y194 => (if 0 ≤ x9_1 then (if x9_1 < (t177.length : Int) then ((some (([(⟨(rd_T38 t177 x9_1).f0, (rd_T38 t177 x9_1).f1, (⟨(rd_T38 t177 x9_1).f2.f0, (rd_T38 t177 x9_1).f2.f1, (rd_T38 t177 x9_1).f2.f2⟩ : S36), (⟨(rd_T38 t177 x9_1).f3.f0, (rd_T38 t177 x9_1).f3.f1, (rd_T38 t177 x9_1).f3.f2⟩ : S36)⟩ : S38)] : List (S38)) : List (S38))).bind fun y198 => (if y194.length + y198.length < 1759218604441 then ((some (y194 ++ y198 : List (S38))).bind fun y201 => ((some (x8_1.drop (x10_2 : Int).toNat : List (S38))).bind fun y204 => (if y201.length + y204.length < 1759218604441 then (tithebarnref17_chosen.l1 kj21 t177 (y201 ++ y204) (wrap64 (x9_1 + 1))) else (none)))) else (none))) else (none)) else (none))) else (none))) else (none)) else (none)) = some r := by rw [if_neg (show ¬ (false = true) by decide)] at H; exact H
          clear H
          have H := H1
          clear H1
          by_cases c32 : 0 ≤ x10_2
          ·rw [if_pos c32] at H
           have c32b0 := eq_true c32
           have c32b1 : decide (0 ≤ x10_2) = true := decide_eq_true c32
           clear c32
           by_cases c33 : x10_2 ≤ (x8_1.length : Int)
           ·rw [if_pos c33] at H
            have c33b0 := eq_true c33
            have c33b1 : decide (x10_2 ≤ (x8_1.length : Int)) = true := decide_eq_true c33
            clear c33
            obtain ⟨y189, hy189⟩ : ∃ y_ : List (S38), y_ = (x8_1.take (x10_2 : Int).toNat) := ⟨_, rfl⟩
            replace H : (if ([] : List (S38)).length + y189.length < 1759218604441 then ((some (([] : List (S38)) ++ y189 : List (S38))).bind fun y194 => (if 0 ≤ x9_1 then (if x9_1 < (t177.length : Int) then ((some (([(⟨(rd_T38 t177 x9_1).f0, (rd_T38 t177 x9_1).f1, (⟨(rd_T38 t177 x9_1).f2.f0, (rd_T38 t177 x9_1).f2.f1, (rd_T38 t177 x9_1).f2.f2⟩ : S36), (⟨(rd_T38 t177 x9_1).f3.f0, (rd_T38 t177 x9_1).f3.f1, (rd_T38 t177 x9_1).f3.f2⟩ : S36)⟩ : S38)] : List (S38)) : List (S38))).bind fun y198 => (if y194.length + y198.length < 1759218604441 then ((some (y194 ++ y198 : List (S38))).bind fun y201 => ((some (x8_1.drop (x10_2 : Int).toNat : List (S38))).bind fun y204 => (if y201.length + y204.length < 1759218604441 then (tithebarnref17_chosen.l1 kj21 t177 (y201 ++ y204) (wrap64 (x9_1 + 1))) else (none)))) else (none))) else (none)) else (none))) else (none)) = some r := by first | (rw [hy189]; with_reducible exact H) | (have H2_ := (Option.bind_some _ _).symm.trans H; rw [hy189]; with_reducible exact H2_) | (have H2_ := (Option.bind_some _ _).symm.trans H; with_reducible exact H2_) | with_reducible exact H | (rw [hy189]; exact H) | exact H
            have Ny189 := Aside0.mk hy189
            clear hy189
            by_cases c34 : ([] : List (S38)).length + y189.length < 1759218604441
            ·rw [if_pos c34] at H
             have LMc34 := Aside0.mk c34
             clear c34
             obtain ⟨y194, hy194⟩ : ∃ y_ : List (S38), y_ = (([] : List (S38)) ++ y189) := ⟨_, rfl⟩
             replace H : (if 0 ≤ x9_1 then (if x9_1 < (t177.length : Int) then ((some (([(⟨(rd_T38 t177 x9_1).f0, (rd_T38 t177 x9_1).f1, (⟨(rd_T38 t177 x9_1).f2.f0, (rd_T38 t177 x9_1).f2.f1, (rd_T38 t177 x9_1).f2.f2⟩ : S36), (⟨(rd_T38 t177 x9_1).f3.f0, (rd_T38 t177 x9_1).f3.f1, (rd_T38 t177 x9_1).f3.f2⟩ : S36)⟩ : S38)] : List (S38)) : List (S38))).bind fun y198 => (if y194.length + y198.length < 1759218604441 then ((some (y194 ++ y198 : List (S38))).bind fun y201 => ((some (x8_1.drop (x10_2 : Int).toNat : List (S38))).bind fun y204 => (if y201.length + y204.length < 1759218604441 then (tithebarnref17_chosen.l1 kj21 t177 (y201 ++ y204) (wrap64 (x9_1 + 1))) else (none)))) else (none))) else (none)) else (none)) = some r := by first | (rw [hy194]; with_reducible exact H) | (have H2_ := (Option.bind_some _ _).symm.trans H; rw [hy194]; with_reducible exact H2_) | (have H2_ := (Option.bind_some _ _).symm.trans H; with_reducible exact H2_) | with_reducible exact H | (rw [hy194]; exact H) | exact H
             have Ny194 := Aside0.mk hy194
             clear hy194
             by_cases c35 : 0 ≤ x9_1
             ·rw [if_pos c35] at H
              have c35b0 : decide (0 ≤ x9_1) = true := decide_eq_true c35
              clear c35
              by_cases c36 : x9_1 < (t177.length : Int)
              ·rw [if_pos c36] at H
               have c36b0 : decide (x9_1 < (t177.length : Int)) = true := decide_eq_true c36
               clear c36
               obtain ⟨y198, hy198⟩ : ∃ y_ : List (S38), y_ = (([(⟨(rd_T38 t177 x9_1).f0, (rd_T38 t177 x9_1).f1, (⟨(rd_T38 t177 x9_1).f2.f0, (rd_T38 t177 x9_1).f2.f1, (rd_T38 t177 x9_1).f2.f2⟩ : S36), (⟨(rd_T38 t177 x9_1).f3.f0, (rd_T38 t177 x9_1).f3.f1, (rd_T38 t177 x9_1).f3.f2⟩ : S36)⟩ : S38)] : List (S38))) := ⟨_, rfl⟩
               replace H : (if y194.length + y198.length < 1759218604441 then ((some (y194 ++ y198 : List (S38))).bind fun y201 => ((some (x8_1.drop (x10_2 : Int).toNat : List (S38))).bind fun y204 => (if y201.length + y204.length < 1759218604441 then (tithebarnref17_chosen.l1 kj21 t177 (y201 ++ y204) (wrap64 (x9_1 + 1))) else (none)))) else (none)) = some r := by first | (rw [hy198]; with_reducible exact H) | (have H2_ := (Option.bind_some _ _).symm.trans H; rw [hy198]; with_reducible exact H2_) | (have H2_ := (Option.bind_some _ _).symm.trans H; with_reducible exact H2_) | with_reducible exact H | (rw [hy198]; exact H) | exact H
               have Ny198 := Aside0.mk hy198
               clear hy198
               by_cases c37 : y194.length + y198.length < 1759218604441
               ·rw [if_pos c37] at H
                have LMc37 := Aside0.mk c37
                clear c37
                obtain ⟨y201, hy201⟩ : ∃ y_ : List (S38), y_ = (y194 ++ y198) := ⟨_, rfl⟩
                replace H : ((some (x8_1.drop (x10_2 : Int).toNat : List (S38))).bind fun y204 => (if y201.length + y204.length < 1759218604441 then (tithebarnref17_chosen.l1 kj21 t177 (y201 ++ y204) (wrap64 (x9_1 + 1))) else (none))) = some r := by first | (rw [hy201]; with_reducible exact H) | (have H2_ := (Option.bind_some _ _).symm.trans H; rw [hy201]; with_reducible exact H2_) | (have H2_ := (Option.bind_some _ _).symm.trans H; with_reducible exact H2_) | with_reducible exact H | (rw [hy201]; exact H) | exact H
                have Ny201 := Aside0.mk hy201
                clear hy201
                have c38b0 := eq_true (of_decide_eq_true (by with_reducible assumption) : 0 ≤ x10_2)
                have c39b0 := eq_true (of_decide_eq_true (by with_reducible assumption) : x10_2 ≤ (x8_1.length : Int))
                obtain ⟨y204, hy204⟩ : ∃ y_ : List (S38), y_ = (x8_1.drop (x10_2 : Int).toNat) := ⟨_, rfl⟩
                replace H : (if y201.length + y204.length < 1759218604441 then (tithebarnref17_chosen.l1 kj21 t177 (y201 ++ y204) (wrap64 (x9_1 + 1))) else (none)) = some r := by first | (rw [hy204]; with_reducible exact H) | (have H2_ := (Option.bind_some _ _).symm.trans H; rw [hy204]; with_reducible exact H2_) | (have H2_ := (Option.bind_some _ _).symm.trans H; with_reducible exact H2_) | with_reducible exact H | (rw [hy204]; exact H) | exact H
                have Ny204 := Aside0.mk hy204
                clear hy204
                by_cases c40 : y201.length + y204.length < 1759218604441
                ·rw [if_pos c40] at H
                 have LMc40 := Aside0.mk c40
                 clear c40
                 obtain ⟨y209, hy209⟩ : ∃ y_ : List (S38), y_ = (y201 ++ y204) := ⟨_, rfl⟩
                 replace H : (tithebarnref17_chosen.l1 kj21 t177 y209 (wrap64 (x9_1 + 1))) = some r := by first | (rw [hy209]; with_reducible exact H) | (have H2_ := (Option.bind_some _ _).symm.trans H; rw [hy209]; with_reducible exact H2_) | (have H2_ := (Option.bind_some _ _).symm.trans H; with_reducible exact H2_) | with_reducible exact H | (rw [hy209]; exact H) | exact H
                 have Ny209 := Aside0.mk hy209
                 clear hy209
                 have H' := Aside0.mk H
                 clear H
                 try go_wp2
                 have n0_ := Aside0.mk (Kd.R_drew HO_5.out)
                 have n1_ := Aside0.mk (Kd.R_drew HO_8.out)
                 have n2_ := Aside0.mk (below_drew1 HB.out)
                 clear HO_5
                 clear HO_8
                 clear HB
                 have HO_5 := n0_
                 have HO_8 := n1_
                 have HB := n2_
                 clear n0_ n1_ n2_
                 obtain ⟨Ao43, co43, eo43⟩ := Kd.R_slice HO_8.out
                 (first | subst eo43 | (injection eo43 with f1_ f2_ f3_; have f4_ := f1_.symm; have f5_ := f3_.symm; clear f1_ f2_ f3_; subst f4_; subst f5_))
                 have q42 : (x10_2 : Int) ≤ ((x8_1.length : Int) : Int) := of_decide_eq_true (by with_reducible assumption)
                 obtain ⟨i042, hi042, _, hsz42, _⟩ := info_parts info38
                 have hroom42 : x8_1.length ≤ co43 := (Kd.R_reads' HO_8.out).2.1
                 have hC42 : Kd.F k38 _ _ Ao43 x8_1.length x8_1 := (Kd.V_at (base := w.heap.size) (Kd.R_V HO_8.out)).2.2
                 have hcut42 := cut_to (P := Try.prog) 22 38 .i64 Try.underlying22 hi042 Ao43 x8_1.length co43 x10_2 (of_decide_eq_true (by with_reducible assumption)) q42 hroom42
                 have hr42 := Kd.F_take (m := (x10_2 : Int).toNat) hC42 (by omega)
                 have hy42 : y189.length = (x10_2 : Int).toNat := (by rw [Ny189.out, List.length_take]; omega)
                 rw [← Ny189.out] at hr42
                 rw [← hy42] at hcut42
                 have HO193 := Aside0.mk (show Kd.V k38 38 _ w.heap.size _ (.slice Ao43 y189.length co43) y189 from Kd.V_mk (by omega) hr42)
                 have HC193 := Aside0.mk (show y189.length ≤ co43 from by omega)
                 clear hr42 hC42 hroom42 hi042 hsz42
                 have KY42 := Aside0.mk hy42
                 clear hy42
                 replace q42 := eq_true q42
                 have p197 : 0 ≤ (x9_1 : Int) := of_decide_eq_true (by with_reducible assumption)
                 have q197 : x9_1 < (t177.length : Int) := of_decide_eq_true (by with_reducible assumption)
                 obtain ⟨ad197, e197, hx197_0, hx197_1, hx197_2, hx197_3, hx197_4, hx197_5, hx197_6, hx197_7⟩ := at_T38 (Kd.R_reads' HO_5.out).2.2 x9_1 p197 q197
                 cases e197
                 replace p197 := eq_true p197
                 replace q197 := eq_true q197
                 have q44 : (x10_2 : Int) ≤ ((x8_1.length : Int) : Int) := of_decide_eq_true (by with_reducible assumption)
                 obtain ⟨i044, hi044, _, hsz44, _⟩ := info_parts info38
                 have hroom44 : x8_1.length ≤ co43 := (Kd.R_reads' HO_8.out).2.1
                 have hC44 : Kd.F k38 _ _ Ao43 x8_1.length x8_1 := (Kd.V_at (base := w.heap.size) (Kd.R_V HO_8.out)).2.2
                 have q044 : (0 : Int) ≤ (x10_2 : Int) := of_decide_eq_true (by with_reducible assumption)
                 have hcut44 := cut_from (P := Try.prog) 22 38 .i64 Try.underlying22 hi044 8 hsz44 Ao43 x8_1.length co43 x10_2 q044 q44
                 have hr44 := Kd.F_cut (m := (x10_2 : Int).toNat) (c := co43) hC44 (by omega) hroom44
                 obtain ⟨A44, hA44⟩ : ∃ A1, A1 = (if co43 = (x10_2 : Int).toNat then Ao43 else (Ao43 : Option Addr).map (·.add ((x10_2 : Int).toNat * 8))) := ⟨_, rfl⟩
                 obtain ⟨c44, hc44⟩ : ∃ c1, c1 = co43 - (x10_2 : Int).toNat := ⟨_, rfl⟩
                 have hy44 : y204.length = x8_1.length - (x10_2 : Int).toNat := (by rw [Ny204.out, List.length_drop] <;> omega)
                 rw [show (x8_1).drop (x10_2 : Int).toNat = y204 from Ny204.out.symm] at hr44
                 replace hr44 : Kd.F k38 _ _ A44 y204.length y204 := (by rw [hA44]; exact hr44)
                 rw [← hy44, ← hA44, ← hc44] at hcut44
                 have HO208 := Aside0.mk (show Kd.V k38 38 _ w.heap.size _ (.slice A44 y204.length c44) y204 from Kd.V_mk (by rw [hy44, hc44]; exact Nat.sub_le_sub_right hroom44 _) hr44)
                 have HC208 := Aside0.mk (show y204.length ≤ c44 from by rw [hy44, hc44]; exact Nat.sub_le_sub_right hroom44 _)
                 clear hr44 hC44 hroom44 hi044 hsz44 hc44
                 have KY44 := Aside0.mk hy44
                 have KA44 := Aside0.mk hA44
                 clear hy44 hA44
                 replace q44 := eq_true q44
                 refine start_ (n := 15) (S := fun w' => w'.cell? (ad197.add ((x9_1).toNat * 8)) = some (.int .i64 ((rd_T38 t177 x9_1).f0)) ∧ w'.cell? ⟨(ad197.add ((x9_1).toNat * 8)).block, (ad197.add ((x9_1).toNat * 8)).off + 1, none⟩ = some (.int .i64 ((rd_T38 t177 x9_1).f1)) ∧ w'.cell? ⟨(ad197.add ((x9_1).toNat * 8)).block, (ad197.add ((x9_1).toNat * 8)).off + 2, none⟩ = some (.bool ((rd_T38 t177 x9_1).f2.f0)) ∧ w'.cell? ⟨(ad197.add ((x9_1).toNat * 8)).block, (ad197.add ((x9_1).toNat * 8)).off + 3, none⟩ = some (.int .i64 ((rd_T38 t177 x9_1).f2.f1)) ∧ w'.cell? ⟨(ad197.add ((x9_1).toNat * 8)).block, (ad197.add ((x9_1).toNat * 8)).off + 4, none⟩ = some (.string ((rd_T38 t177 x9_1).f2.f2)) ∧ w'.cell? ⟨(ad197.add ((x9_1).toNat * 8)).block, (ad197.add ((x9_1).toNat * 8)).off + 5, none⟩ = some (.bool ((rd_T38 t177 x9_1).f3.f0)) ∧ w'.cell? ⟨(ad197.add ((x9_1).toNat * 8)).block, (ad197.add ((x9_1).toNat * 8)).off + 6, none⟩ = some (.int .i64 ((rd_T38 t177 x9_1).f3.f1)) ∧ w'.cell? ⟨(ad197.add ((x9_1).toNat * 8)).block, (ad197.add ((x9_1).toNat * 8)).off + 7, none⟩ = some (.string ((rd_T38 t177 x9_1).f3.f2))) (ds := [9, 13]) #[false, false, false, false, false, false, false, false, false, false, false, false, false, false, false] (by kernel_rfl) rfl rfl ⟨hx197_0, hx197_1, hx197_2, hx197_3, hx197_4, hx197_5, hx197_6, hx197_7⟩ (fun hHeld => ?_); refine with_tabW tithebarnref17_chosen.tab17 tithebarnref17_chosen.bits17 (fun HT_ HW_ => ?_)
                 generalize wc.drew = w41 at HO_5 HO_8 HB HO193 HO208 hx197_0 hx197_1 hx197_2 hx197_3 hx197_4 hx197_5 hx197_6 hx197_7 hHeld ⊢
                 refine pure_ (i := 0) (N := some 64) (v := ?_) (a' := ?_) #[true, false, false, false, false, false, false, false, false, false, false, false, false, false, false] rfl rfl (any_of HT_.out (by kernel_rfl)) (fun _ _ _ h => h) (Or.inl ⟨by rfl, ?_⟩) ?_ ?_
                 rotate_left
                 ·intro w'
                  go_simp
                  with_reducible rfl
                 rotate_left
                 ·simp only [Act.put, List.setIfInBounds_toArray, List.set_cons_zero, List.set_cons_succ, i64_w, i32_w]
                  rfl
                 refine pure_ (i := 1) (N := some 65) (v := ?_) (a' := ?_) #[true, true, false, false, false, false, false, false, false, false, false, false, false, false, false] rfl rfl (any_of HT_.out (by kernel_rfl)) (fun _ _ _ h => h) (Or.inl ⟨by rfl, ?_⟩) ?_ ?_
                 rotate_left
                 ·intro w'
                  go_simp
                  with_reducible rfl
                 rotate_left
                 ·simp only [Act.put, List.setIfInBounds_toArray, List.set_cons_zero, List.set_cons_succ, i64_w, i32_w]
                  rfl
                 refine pure_ (i := 2) (N := some 66) (v := ?_) (a' := ?_) #[true, true, true, false, false, false, false, false, false, false, false, false, false, false, false] rfl rfl (any_of HT_.out (by kernel_rfl)) (fun _ _ _ h => h) (Or.inl ⟨by rfl, ?_⟩) ?_ ?_
                 rotate_left
                 ·intro w'
                  go_simp
                  with_reducible rfl
                 rotate_left
                 ·simp only [Act.put, List.setIfInBounds_toArray, List.set_cons_zero, List.set_cons_succ, i64_w, i32_w]
                  rfl
                 refine pure_ (i := 4) (N := some 68) (v := ?_) (a' := ?_) #[true, true, true, false, true, false, false, false, false, false, false, false, false, false, false] rfl rfl (any_of HT_.out (by kernel_rfl)) (fun _ _ _ h => h) (Or.inl ⟨by rfl, ?_⟩) ?_ ?_
                 rotate_left
                 ·intro w'
                  go_simp
                  with_reducible rfl
                 rotate_left
                 ·simp only [Act.put, List.setIfInBounds_toArray, List.set_cons_zero, List.set_cons_succ, i64_w, i32_w]
                  rfl
                 refine pure_ (i := 5) (N := some 69) (v := ?_) (a' := ?_) #[true, true, true, false, true, true, false, false, false, false, false, false, false, false, false] rfl rfl (any_of HT_.out (by kernel_rfl)) (fun _ _ _ h => h) (Or.inl ⟨by rfl, ?_⟩) ?_ ?_
                 rotate_left
                 ·intro w'
                  go_simp
                  with_reducible rfl
                 rotate_left
                 ·simp only [Act.put, List.setIfInBounds_toArray, List.set_cons_zero, List.set_cons_succ, i64_w, i32_w]
                  rfl
                 refine pure_ (i := 6) (N := some 70) (v := ?_) (a' := ?_) #[true, true, true, false, true, true, true, false, false, false, false, false, false, false, false] rfl rfl (any_of HT_.out (by kernel_rfl)) (fun _ _ _ h => h) (Or.inl ⟨by rfl, ?_⟩) ?_ ?_
                 rotate_left
                 ·intro w'
                  go_simp
                  with_reducible rfl
                 rotate_left
                 ·simp only [Act.put, List.setIfInBounds_toArray, List.set_cons_zero, List.set_cons_succ, i64_w, i32_w]
                  rfl
                 refine pure_ (i := 10) (N := some 74) (v := ?_) (a' := ?_) #[true, true, true, false, true, true, true, false, false, false, true, false, false, false, false] rfl rfl (any_of HT_.out (by kernel_rfl)) (fun _ _ _ h => h) (Or.inl ⟨by rfl, ?_⟩) ?_ ?_
                 rotate_left
                 ·intro w'
                  go_simp
                  with_reducible rfl
                 rotate_left
                 ·simp only [Act.put, List.setIfInBounds_toArray, List.set_cons_zero, List.set_cons_succ, i64_w, i32_w]
                  rfl
                 refine pure_ (i := 11) (N := some 75) (v := ?_) (a' := ?_) #[true, true, true, false, true, true, true, false, false, false, true, true, false, false, false] rfl rfl (any_of HT_.out (by kernel_rfl)) (fun _ _ _ h => h) (Or.inl ⟨by rfl, ?_⟩) ?_ ?_
                 rotate_left
                 ·intro w'
                  go_simp
                  with_reducible rfl
                 rotate_left
                 ·simp only [Act.put, List.setIfInBounds_toArray, List.set_cons_zero, List.set_cons_succ, i64_w, i32_w]
                  rfl
                 refine pure_ (i := 12) (N := some 76) (v := ?_) (a' := ?_) #[true, true, true, false, true, true, true, false, false, false, true, true, true, false, false] rfl rfl (any_of HT_.out (by kernel_rfl)) (fun _ _ _ h => h) (Or.inl ⟨by rfl, ?_⟩) ?_ ?_
                 rotate_left
                 ·intro w'
                  go_simp
                  with_reducible rfl
                 rotate_left
                 ·simp only [Act.put, List.setIfInBounds_toArray, List.set_cons_zero, List.set_cons_succ, i64_w, i32_w]
                  rfl
                 refine take_ (i := 7) (N := some 71) (v := ?_) (a' := ?_) #[true, true, true, false, true, true, true, true, false, false, true, true, true, false, false] rfl rfl (take_ofW HT_.out HW_.out (by kernel_rfl)) (fun _ _ _ h => h) (Or.inl ⟨by rfl, ?_⟩) hHeld ?_ ?_
                 rotate_left
                 ·rintro w' ⟨s0, s1, s2, s3, s4, s5, s6, s7⟩
                  go_simp
                  with_reducible rfl
                 rotate_left
                 ·simp only [Act.put, List.setIfInBounds_toArray, List.set_cons_zero, List.set_cons_succ, i64_w, i32_w]
                  rfl
                 refine join_ (σ := Value × Value) 3 #[true, true, true, true, true, true, true, true, true, false, true, true, true, false, false] (fun s_ => [(67, s_.1), (72, s_.2)]) (fun s_ w' => (w'.cell? (ad197.add ((x9_1).toNat * 8)) = some (.int .i64 ((rd_T38 t177 x9_1).f0)) ∧ w'.cell? ⟨(ad197.add ((x9_1).toNat * 8)).block, (ad197.add ((x9_1).toNat * 8)).off + 1, none⟩ = some (.int .i64 ((rd_T38 t177 x9_1).f1)) ∧ w'.cell? ⟨(ad197.add ((x9_1).toNat * 8)).block, (ad197.add ((x9_1).toNat * 8)).off + 2, none⟩ = some (.bool ((rd_T38 t177 x9_1).f2.f0)) ∧ w'.cell? ⟨(ad197.add ((x9_1).toNat * 8)).block, (ad197.add ((x9_1).toNat * 8)).off + 3, none⟩ = some (.int .i64 ((rd_T38 t177 x9_1).f2.f1)) ∧ w'.cell? ⟨(ad197.add ((x9_1).toNat * 8)).block, (ad197.add ((x9_1).toNat * 8)).off + 4, none⟩ = some (.string ((rd_T38 t177 x9_1).f2.f2)) ∧ w'.cell? ⟨(ad197.add ((x9_1).toNat * 8)).block, (ad197.add ((x9_1).toNat * 8)).off + 5, none⟩ = some (.bool ((rd_T38 t177 x9_1).f3.f0)) ∧ w'.cell? ⟨(ad197.add ((x9_1).toNat * 8)).block, (ad197.add ((x9_1).toNat * 8)).off + 6, none⟩ = some (.int .i64 ((rd_T38 t177 x9_1).f3.f1)) ∧ w'.cell? ⟨(ad197.add ((x9_1).toNat * 8)).block, (ad197.add ((x9_1).toNat * 8)).off + 7, none⟩ = some (.string ((rd_T38 t177 x9_1).f3.f2))) ∧ (Kd.V k38 38 w' w.heap.size (fun k_ => some k_ ≠ (s_.1 : Value).ownBlock ∧ some k_ ≠ (s_.2 : Value).ownBlock ∧ some k_ ≠ (.slice (some ad197) t177.length co21 : Value).ownBlock) (.slice Ao43 y189.length co43) y189) ∧ (Kd.R k38 38 w' w.heap.size (fun k_ => some k_ ≠ (s_.2 : Value).ownBlock ∧ some k_ ≠ (.slice (some ad197) t177.length co21 : Value).ownBlock ∧ some k_ ≠ (.slice Ao43 x8_1.length co43 : Value).ownBlock) s_.1 y194) ∧ (Kd.R k38 38 w' w.heap.size (fun k_ => some k_ ≠ (s_.1 : Value).ownBlock ∧ some k_ ≠ (.slice (some ad197) t177.length co21 : Value).ownBlock ∧ some k_ ≠ (.slice Ao43 x8_1.length co43 : Value).ownBlock) s_.2 y198) ∧ (Kd.V k38 38 w' w.heap.size (fun k_ => some k_ ≠ (s_.1 : Value).ownBlock ∧ some k_ ≠ (s_.2 : Value).ownBlock ∧ some k_ ≠ (.slice (some ad197) t177.length co21 : Value).ownBlock) (.slice A44 y204.length c44) y204) ∧ (Kd.R k38 38 w' w.heap.size (fun k_ => some k_ ≠ (s_.1 : Value).ownBlock ∧ some k_ ≠ (s_.2 : Value).ownBlock ∧ some k_ ≠ (.slice Ao43 x8_1.length co43 : Value).ownBlock) (.slice (some ad197) t177.length co21) t177) ∧ (Kd.R k38 38 w' w.heap.size (fun k_ => some k_ ≠ (s_.1 : Value).ownBlock ∧ some k_ ≠ (s_.2 : Value).ownBlock ∧ some k_ ≠ (.slice (some ad197) t177.length co21 : Value).ownBlock) (.slice Ao43 x8_1.length co43) x8_1) ∧ (Below w.heap.size w w')) ?_ ?_
                 rotate_left
                 ·intro hCont
                  refine two_ (i := 3) (j := 8) (Ni := some 67) (Nj := some 72) #[true, true, true, true, true, true, true, true, false, false, true, true, true, false, false] #[true, true, true, false, true, true, true, true, true, false, true, true, true, false, false] rfl rfl rfl rfl (two_of HT_.out (by kernel_rfl)) (by decide) (by decide) (fun K hK => ?_) (fun K hK => ?_)
                  ·skip
                   refine Kd.R_append_rows_step k38 (w0 := w) w.heap.size (by rfl) (.const (.slice none 0 0)) (.tmp 66) 22 38 (.agg #[(.int .i64 0), (.int .i64 0), (.bool false), (.int .i64 0), (.string ⟨#[]⟩), (.bool false), (.int .i64 0), (.string ⟨#[]⟩)]) 80 rfl Try.underlying22 info38 rfl (by decide) (by omega) (.slice none 0 0) ([] : List (S38)) y189 _ _ _ (fun k_ => some k_ ≠ (.slice (some ad197) t177.length co21 : Value).ownBlock ∧ some k_ ≠ (.slice Ao43 x8_1.length co43 : Value).ownBlock) (fun _ => False) rfl rfl ?aO ?aR (fun _ _ h => h) (fun _ h => h.elim) ?aF ?aB ?aS ?aL ?_
                   (case aR => repeat (first | exact (Kd.V_reads' HO193.out).2.2 | (with_reducible refine Kd.C_alloc ?_ _) | (with_reducible refine Kd.C_drewN ?_ _) | (with_reducible refine Kd.C_drew ?_)))
                   (case aB => exact (by with_reducible repeat first | exact HB.out | apply below_alloc | apply pw_below_drewN | apply below_drew1))
                   (case aF => exact (fun k_ hk => ⟨Kd.fresh' (Kd.R_lt (by (with_reducible repeat (first | apply Kd.R_alloc | apply Kd.R_drewN | apply Kd.R_drew)); exact HO_5.out)) k_ hk, Kd.fresh' (Kd.R_lt (by (with_reducible repeat (first | apply Kd.R_alloc | apply Kd.R_drewN | apply Kd.R_drew)); exact HO_8.out)) k_ hk⟩))
                   (case aO => exact ((Kd.R_nil _ _ _ _ (fun k_ => some k_ ≠ (.slice (some ad197) t177.length co21 : Value).ownBlock ∧ some k_ ≠ (.slice Ao43 x8_1.length co43 : Value).ownBlock))))
                   (case aS => exact (below_size (by with_reducible repeat first | exact HB.out | apply below_alloc | apply pw_below_drewN | apply below_drew1)))
                   (case aL => have := LMc34.out; omega)
                   intro v195 w45 ho hb hg hat
                   (first | have HS0_ := cell_grown hg (hHeld.1) (by simp [Value.ownBlock]) | have HS0_ := cell_grown hg (cell_unalloc (hHeld.1) (World.block_lt_of_cell? _ _ (hHeld.1))) (by simp [Value.ownBlock]))
                   (first | have HS1_ := cell_grown hg (hHeld.2.1) (by simp [Value.ownBlock]) | have HS1_ := cell_grown hg (cell_unalloc (hHeld.2.1) (World.block_lt_of_cell? _ _ (hHeld.2.1))) (by simp [Value.ownBlock]))
                   (first | have HS2_ := cell_grown hg (hHeld.2.2.1) (by simp [Value.ownBlock]) | have HS2_ := cell_grown hg (cell_unalloc (hHeld.2.2.1) (World.block_lt_of_cell? _ _ (hHeld.2.2.1))) (by simp [Value.ownBlock]))
                   (first | have HS3_ := cell_grown hg (hHeld.2.2.2.1) (by simp [Value.ownBlock]) | have HS3_ := cell_grown hg (cell_unalloc (hHeld.2.2.2.1) (World.block_lt_of_cell? _ _ (hHeld.2.2.2.1))) (by simp [Value.ownBlock]))
                   (first | have HS4_ := cell_grown hg (hHeld.2.2.2.2.1) (by simp [Value.ownBlock]) | have HS4_ := cell_grown hg (cell_unalloc (hHeld.2.2.2.2.1) (World.block_lt_of_cell? _ _ (hHeld.2.2.2.2.1))) (by simp [Value.ownBlock]))
                   (first | have HS5_ := cell_grown hg (hHeld.2.2.2.2.2.1) (by simp [Value.ownBlock]) | have HS5_ := cell_grown hg (cell_unalloc (hHeld.2.2.2.2.2.1) (World.block_lt_of_cell? _ _ (hHeld.2.2.2.2.2.1))) (by simp [Value.ownBlock]))
                   (first | have HS6_ := cell_grown hg (hHeld.2.2.2.2.2.2.1) (by simp [Value.ownBlock]) | have HS6_ := cell_grown hg (cell_unalloc (hHeld.2.2.2.2.2.2.1) (World.block_lt_of_cell? _ _ (hHeld.2.2.2.2.2.2.1))) (by simp [Value.ownBlock]))
                   (first | have HS7_ := cell_grown hg (hHeld.2.2.2.2.2.2.2) (by simp [Value.ownBlock]) | have HS7_ := cell_grown hg (cell_unalloc (hHeld.2.2.2.2.2.2.2) (World.block_lt_of_cell? _ _ (hHeld.2.2.2.2.2.2.2))) (by simp [Value.ownBlock]))
                   rw [← Ny194.out] at ho
                   have n0_ := Aside0.mk (Kd.R_after (Kd.R_apart_nil (by (with_reducible repeat (first | apply Kd.R_alloc | apply Kd.R_drewN | apply Kd.R_drew)); exact HO_5.out)) hg hat)
                   have n1_ := Aside0.mk (Kd.R_after (Kd.R_apart_nil (by (with_reducible repeat (first | apply Kd.R_alloc | apply Kd.R_drewN | apply Kd.R_drew)); exact HO_8.out)) hg hat)
                   have n2_ := Aside0.mk (Kd.V_afterv (Kd.V_apart_nil (by (with_reducible repeat (first | apply Kd.V_alloc | apply Kd.V_drewN | apply Kd.V_drew)); exact HO193.out)) hg hat)
                   have n3_ := Aside0.mk (Kd.V_afterv (Kd.V_apart_nil (by (with_reducible repeat (first | apply Kd.V_alloc | apply Kd.V_drewN | apply Kd.V_drew)); exact HO208.out)) hg hat)
                   have n4_ := Aside0.mk (hb)
                   have n5_ := Aside0.mk (ho)
                   clear HO_5
                   clear HO_8
                   clear HO193
                   clear HO208
                   clear HB
                   have HO_5 := n0_
                   have HO_8 := n1_
                   have HO193 := n2_
                   have HO208 := n3_
                   have HB := n4_
                   have HO196 := n5_
                   clear n0_ n1_ n2_ n3_ n4_ n5_
                   clear ho hb hg hat
                   refine hK.out _ _ ⟨HS0_, HS1_, HS2_, HS3_, HS4_, HS5_, HS6_, HS7_⟩ (fun hHeld => ?_)
                   clear hK K
                   refine norm_ (a' := ?_) ?_ ?_
                   rotate_left
                   ·show Act.put _ (some 67) _ = _
                    simp only [Act.put, List.setIfInBounds_toArray, List.set_cons_zero, List.set_cons_succ, i64_w, i32_w]
                    rfl
                   refine one_ (i := 8) (N := some 72) #[true, true, true, true, true, true, true, true, true, false, true, true, true, false, false] rfl rfl (one_of HT_.out (by kernel_rfl)) (by decide) (fun K hK => ?_)
                   refine Kd.R_lit_step k38 _ 38 ?hg (N := 72) ?hd (xs := ([(⟨(rd_T38 t177 x9_1).f0, (rd_T38 t177 x9_1).f1, (⟨(rd_T38 t177 x9_1).f2.f0, (rd_T38 t177 x9_1).f2.f1, (rd_T38 t177 x9_1).f2.f2⟩ : S36), (⟨(rd_T38 t177 x9_1).f3.f0, (rd_T38 t177 x9_1).f3.f1, (rd_T38 t177 x9_1).f3.f2⟩ : S36)⟩ : S38)] : List (S38))) (inner := [.int .i64 ((rd_T38 t177 x9_1).f0), .int .i64 ((rd_T38 t177 x9_1).f1), .bool ((rd_T38 t177 x9_1).f2.f0), .int .i64 ((rd_T38 t177 x9_1).f2.f1), .string ((rd_T38 t177 x9_1).f2.f2), .bool ((rd_T38 t177 x9_1).f3.f0), .int .i64 ((rd_T38 t177 x9_1).f3.f1), .string ((rd_T38 t177 x9_1).f3.f2)]) (ok := fun _ => True) (okp := fun _ => True) ?hr ?hp (fun _ hk => hk) trivial (Below.refl _ _) (Nat.le_refl _) (by simp) ?_; (case hd => rfl); (case hg => rfl); (case hr => first | (go_simp; done) | (go_simp; rfl)); (case hp => exact (Reps.c8 (show Kd.M k38 _ _ _ (⟨(rd_T38 t177 x9_1).f0, (rd_T38 t177 x9_1).f1, (⟨(rd_T38 t177 x9_1).f2.f0, (rd_T38 t177 x9_1).f2.f1, (rd_T38 t177 x9_1).f2.f2⟩ : S36), (⟨(rd_T38 t177 x9_1).f3.f0, (rd_T38 t177 x9_1).f3.f1, (rd_T38 t177 x9_1).f3.f2⟩ : S36)⟩ : S38) [.int .i64 ((rd_T38 t177 x9_1).f0), .int .i64 ((rd_T38 t177 x9_1).f1), .bool ((rd_T38 t177 x9_1).f2.f0), .int .i64 ((rd_T38 t177 x9_1).f2.f1), .string ((rd_T38 t177 x9_1).f2.f2), .bool ((rd_T38 t177 x9_1).f3.f0), .int .i64 ((rd_T38 t177 x9_1).f3.f1), .string ((rd_T38 t177 x9_1).f3.f2)] from (k38_mkM _ _ _ (⟨(rd_T38 t177 x9_1).f0, (rd_T38 t177 x9_1).f1, (⟨(rd_T38 t177 x9_1).f2.f0, (rd_T38 t177 x9_1).f2.f1, (rd_T38 t177 x9_1).f2.f2⟩ : S36), (⟨(rd_T38 t177 x9_1).f3.f0, (rd_T38 t177 x9_1).f3.f1, (rd_T38 t177 x9_1).f3.f2⟩ : S36)⟩ : S38) )) (Reps.none _ _)))
                   intro v199 w46 ho47 hb hg_ hnew_
                   have HS0_ := (hb.cell (World.block_lt_of_cell? _ _ (hHeld.1))).trans (hHeld.1)
                   have HS1_ := (hb.cell (World.block_lt_of_cell? _ _ (hHeld.2.1))).trans (hHeld.2.1)
                   have HS2_ := (hb.cell (World.block_lt_of_cell? _ _ (hHeld.2.2.1))).trans (hHeld.2.2.1)
                   have HS3_ := (hb.cell (World.block_lt_of_cell? _ _ (hHeld.2.2.2.1))).trans (hHeld.2.2.2.1)
                   have HS4_ := (hb.cell (World.block_lt_of_cell? _ _ (hHeld.2.2.2.2.1))).trans (hHeld.2.2.2.2.1)
                   have HS5_ := (hb.cell (World.block_lt_of_cell? _ _ (hHeld.2.2.2.2.2.1))).trans (hHeld.2.2.2.2.2.1)
                   have HS6_ := (hb.cell (World.block_lt_of_cell? _ _ (hHeld.2.2.2.2.2.2.1))).trans (hHeld.2.2.2.2.2.2.1)
                   have HS7_ := (hb.cell (World.block_lt_of_cell? _ _ (hHeld.2.2.2.2.2.2.2))).trans (hHeld.2.2.2.2.2.2.2)
                   clear hg_ hnew_
                   (first | rw [← Ny198.out] at ho47 | (simp only [Int.reduceToNat] at ho47; rw [← Ny198.out] at ho47))
                   have n0_ := Aside0.mk (Kd.R_elder' (by (with_reducible repeat (first | apply Kd.R_alloc | apply Kd.R_drewN | apply Kd.R_drew)); exact HO_5.out) (Kd.R_base ho47) hb)
                   have n1_ := Aside0.mk (Kd.R_elder' (by (with_reducible repeat (first | apply Kd.R_alloc | apply Kd.R_drewN | apply Kd.R_drew)); exact HO_8.out) (Kd.R_base ho47) hb)
                   have n2_ := Aside0.mk (Kd.V_elder' (by (with_reducible repeat (first | apply Kd.V_alloc | apply Kd.V_drewN | apply Kd.V_drew)); exact HO193.out) (Kd.R_base ho47) hb)
                   have n3_ := Aside0.mk (Kd.V_elder' (by (with_reducible repeat (first | apply Kd.V_alloc | apply Kd.V_drewN | apply Kd.V_drew)); exact HO208.out) (Kd.R_base ho47) hb)
                   have n4_ := Aside0.mk (Kd.R_elder' (by (with_reducible repeat (first | apply Kd.R_alloc | apply Kd.R_drewN | apply Kd.R_drew)); exact HO196.out) (Kd.R_base ho47) hb)
                   have n5_ := Aside0.mk (Kd.R_lower (Kd.R_new' (Kd.R_new' (Kd.R_new' ho47 (Kd.R_lt (by (with_reducible repeat (first | apply Kd.R_alloc | apply Kd.R_drewN | apply Kd.R_drew)); exact HO_5.out))) (Kd.R_lt (by (with_reducible repeat (first | apply Kd.R_alloc | apply Kd.R_drewN | apply Kd.R_drew)); exact HO_8.out))) (Kd.R_lt (by (with_reducible repeat (first | apply Kd.R_alloc | apply Kd.R_drewN | apply Kd.R_drew)); exact HO196.out))) (below_size (by with_reducible repeat first | exact HB.out | apply below_alloc | apply pw_below_drewN | apply below_drew1)))
                   have n6_ := Aside0.mk (below_step (by with_reducible repeat first | exact HB.out | apply below_alloc | apply pw_below_drewN | apply below_drew1) hb)
                   clear HO_5
                   clear HO_8
                   clear HO193
                   clear HO208
                   clear HO196
                   clear HB
                   have HO_5 := n0_
                   have HO_8 := n1_
                   have HO193 := n2_
                   have HO208 := n3_
                   have HO196 := n4_
                   have HO200 := n5_
                   have HB := n6_
                   clear n0_ n1_ n2_ n3_ n4_ n5_ n6_
                   clear hb ho47
                   refine hK.out _ _ ⟨HS0_, HS1_, HS2_, HS3_, HS4_, HS5_, HS6_, HS7_⟩ (fun hHeld => ?_)
                   clear hK K
                   refine norm_ (a' := ?_) ?_ ?_
                   rotate_left
                   ·show Act.put _ (some 72) _ = _
                    simp only [Act.put, List.setIfInBounds_toArray, List.set_cons_zero, List.set_cons_succ, i64_w, i32_w]
                    rfl
                   exact norm_ (by simp only [putAll, Act.put, List.setIfInBounds_toArray, List.set_cons_zero, List.set_cons_succ]) (hCont (v195, v199) _ ⟨hHeld, (by (with_reducible repeat (first | apply Kd.V_alloc | apply Kd.V_drewN | apply Kd.V_drew)); exact Kd.V_mono HO193.out (fun _ hk => ⟨hk.1.2, ⟨hk.2, hk.1.1⟩⟩)), (by (with_reducible repeat (first | apply Kd.R_alloc | apply Kd.R_drewN | apply Kd.R_drew)); exact Kd.R_mono HO196.out (fun _ hk => ⟨hk.2, ⟨hk.1.1, hk.1.2⟩⟩)), (by (with_reducible repeat (first | apply Kd.R_alloc | apply Kd.R_drewN | apply Kd.R_drew)); exact Kd.R_mono HO200.out (fun _ hk => ⟨hk.2, ⟨hk.1.1.2, hk.1.2⟩⟩)), (by (with_reducible repeat (first | apply Kd.V_alloc | apply Kd.V_drewN | apply Kd.V_drew)); exact Kd.V_mono HO208.out (fun _ hk => ⟨hk.1.2, ⟨hk.2, hk.1.1⟩⟩)), (by (with_reducible repeat (first | apply Kd.R_alloc | apply Kd.R_drewN | apply Kd.R_drew)); exact Kd.R_mono HO_5.out (fun _ hk => ⟨hk.1.2, ⟨hk.2, hk.1.1⟩⟩)), (by (with_reducible repeat (first | apply Kd.R_alloc | apply Kd.R_drewN | apply Kd.R_drew)); exact Kd.R_mono HO_8.out (fun _ hk => ⟨hk.1.2, ⟨hk.2, hk.1.1⟩⟩)), (by with_reducible repeat first | exact HB.out | apply below_alloc | apply pw_below_drewN | apply below_drew1)⟩)
                  ·skip
                   refine Kd.R_lit_step k38 _ 38 ?hg (N := 72) ?hd (xs := ([(⟨(rd_T38 t177 x9_1).f0, (rd_T38 t177 x9_1).f1, (⟨(rd_T38 t177 x9_1).f2.f0, (rd_T38 t177 x9_1).f2.f1, (rd_T38 t177 x9_1).f2.f2⟩ : S36), (⟨(rd_T38 t177 x9_1).f3.f0, (rd_T38 t177 x9_1).f3.f1, (rd_T38 t177 x9_1).f3.f2⟩ : S36)⟩ : S38)] : List (S38))) (inner := [.int .i64 ((rd_T38 t177 x9_1).f0), .int .i64 ((rd_T38 t177 x9_1).f1), .bool ((rd_T38 t177 x9_1).f2.f0), .int .i64 ((rd_T38 t177 x9_1).f2.f1), .string ((rd_T38 t177 x9_1).f2.f2), .bool ((rd_T38 t177 x9_1).f3.f0), .int .i64 ((rd_T38 t177 x9_1).f3.f1), .string ((rd_T38 t177 x9_1).f3.f2)]) (ok := fun _ => True) (okp := fun _ => True) ?hr ?hp (fun _ hk => hk) trivial (Below.refl _ _) (Nat.le_refl _) (by simp) ?_; (case hd => rfl); (case hg => rfl); (case hr => first | (go_simp; done) | (go_simp; rfl)); (case hp => exact (Reps.c8 (show Kd.M k38 _ _ _ (⟨(rd_T38 t177 x9_1).f0, (rd_T38 t177 x9_1).f1, (⟨(rd_T38 t177 x9_1).f2.f0, (rd_T38 t177 x9_1).f2.f1, (rd_T38 t177 x9_1).f2.f2⟩ : S36), (⟨(rd_T38 t177 x9_1).f3.f0, (rd_T38 t177 x9_1).f3.f1, (rd_T38 t177 x9_1).f3.f2⟩ : S36)⟩ : S38) [.int .i64 ((rd_T38 t177 x9_1).f0), .int .i64 ((rd_T38 t177 x9_1).f1), .bool ((rd_T38 t177 x9_1).f2.f0), .int .i64 ((rd_T38 t177 x9_1).f2.f1), .string ((rd_T38 t177 x9_1).f2.f2), .bool ((rd_T38 t177 x9_1).f3.f0), .int .i64 ((rd_T38 t177 x9_1).f3.f1), .string ((rd_T38 t177 x9_1).f3.f2)] from (k38_mkM _ _ _ (⟨(rd_T38 t177 x9_1).f0, (rd_T38 t177 x9_1).f1, (⟨(rd_T38 t177 x9_1).f2.f0, (rd_T38 t177 x9_1).f2.f1, (rd_T38 t177 x9_1).f2.f2⟩ : S36), (⟨(rd_T38 t177 x9_1).f3.f0, (rd_T38 t177 x9_1).f3.f1, (rd_T38 t177 x9_1).f3.f2⟩ : S36)⟩ : S38) )) (Reps.none _ _)))
                   intro v199 w45 ho46 hb hg_ hnew_
                   have HS0_ := (hb.cell (World.block_lt_of_cell? _ _ (hHeld.1))).trans (hHeld.1)
                   have HS1_ := (hb.cell (World.block_lt_of_cell? _ _ (hHeld.2.1))).trans (hHeld.2.1)
                   have HS2_ := (hb.cell (World.block_lt_of_cell? _ _ (hHeld.2.2.1))).trans (hHeld.2.2.1)
                   have HS3_ := (hb.cell (World.block_lt_of_cell? _ _ (hHeld.2.2.2.1))).trans (hHeld.2.2.2.1)
                   have HS4_ := (hb.cell (World.block_lt_of_cell? _ _ (hHeld.2.2.2.2.1))).trans (hHeld.2.2.2.2.1)
                   have HS5_ := (hb.cell (World.block_lt_of_cell? _ _ (hHeld.2.2.2.2.2.1))).trans (hHeld.2.2.2.2.2.1)
                   have HS6_ := (hb.cell (World.block_lt_of_cell? _ _ (hHeld.2.2.2.2.2.2.1))).trans (hHeld.2.2.2.2.2.2.1)
                   have HS7_ := (hb.cell (World.block_lt_of_cell? _ _ (hHeld.2.2.2.2.2.2.2))).trans (hHeld.2.2.2.2.2.2.2)
                   clear hg_ hnew_
                   (first | rw [← Ny198.out] at ho46 | (simp only [Int.reduceToNat] at ho46; rw [← Ny198.out] at ho46))
                   have n0_ := Aside0.mk (Kd.R_elder' (by (with_reducible repeat (first | apply Kd.R_alloc | apply Kd.R_drewN | apply Kd.R_drew)); exact HO_5.out) (Kd.R_base ho46) hb)
                   have n1_ := Aside0.mk (Kd.R_elder' (by (with_reducible repeat (first | apply Kd.R_alloc | apply Kd.R_drewN | apply Kd.R_drew)); exact HO_8.out) (Kd.R_base ho46) hb)
                   have n2_ := Aside0.mk (Kd.V_elder' (by (with_reducible repeat (first | apply Kd.V_alloc | apply Kd.V_drewN | apply Kd.V_drew)); exact HO193.out) (Kd.R_base ho46) hb)
                   have n3_ := Aside0.mk (Kd.V_elder' (by (with_reducible repeat (first | apply Kd.V_alloc | apply Kd.V_drewN | apply Kd.V_drew)); exact HO208.out) (Kd.R_base ho46) hb)
                   have n4_ := Aside0.mk (Kd.R_lower (Kd.R_new' (Kd.R_new' ho46 (Kd.R_lt (by (with_reducible repeat (first | apply Kd.R_alloc | apply Kd.R_drewN | apply Kd.R_drew)); exact HO_5.out))) (Kd.R_lt (by (with_reducible repeat (first | apply Kd.R_alloc | apply Kd.R_drewN | apply Kd.R_drew)); exact HO_8.out))) (below_size (by with_reducible repeat first | exact HB.out | apply below_alloc | apply pw_below_drewN | apply below_drew1)))
                   have n5_ := Aside0.mk (below_step (by with_reducible repeat first | exact HB.out | apply below_alloc | apply pw_below_drewN | apply below_drew1) hb)
                   clear HO_5
                   clear HO_8
                   clear HO193
                   clear HO208
                   clear HB
                   have HO_5 := n0_
                   have HO_8 := n1_
                   have HO193 := n2_
                   have HO208 := n3_
                   have HO200 := n4_
                   have HB := n5_
                   clear n0_ n1_ n2_ n3_ n4_ n5_
                   clear hb ho46
                   refine hK.out _ _ ⟨HS0_, HS1_, HS2_, HS3_, HS4_, HS5_, HS6_, HS7_⟩ (fun hHeld => ?_)
                   clear hK K
                   refine norm_ (a' := ?_) ?_ ?_
                   rotate_left
                   ·show Act.put _ (some 72) _ = _
                    simp only [Act.put, List.setIfInBounds_toArray, List.set_cons_zero, List.set_cons_succ, i64_w, i32_w]
                    rfl
                   refine one_ (i := 3) (N := some 67) #[true, true, true, true, true, true, true, true, true, false, true, true, true, false, false] rfl rfl (one_of HT_.out (by kernel_rfl)) (by decide) (fun K hK => ?_)
                   refine Kd.R_append_rows_step k38 (w0 := w) w.heap.size (by rfl) (.const (.slice none 0 0)) (.tmp 66) 22 38 (.agg #[(.int .i64 0), (.int .i64 0), (.bool false), (.int .i64 0), (.string ⟨#[]⟩), (.bool false), (.int .i64 0), (.string ⟨#[]⟩)]) 80 rfl Try.underlying22 info38 rfl (by decide) (by omega) (.slice none 0 0) ([] : List (S38)) y189 _ _ _ (fun k_ => some k_ ≠ (.slice (some ad197) t177.length co21 : Value).ownBlock ∧ some k_ ≠ (.slice Ao43 x8_1.length co43 : Value).ownBlock ∧ some k_ ≠ (v199 : Value).ownBlock) (fun _ => False) rfl rfl ?aO ?aR (fun _ _ h => h) (fun _ h => h.elim) ?aF ?aB ?aS ?aL ?_
                   (case aR => repeat (first | exact (Kd.V_reads' HO193.out).2.2 | (with_reducible refine Kd.C_alloc ?_ _) | (with_reducible refine Kd.C_drewN ?_ _) | (with_reducible refine Kd.C_drew ?_)))
                   (case aB => exact (by with_reducible repeat first | exact HB.out | apply below_alloc | apply pw_below_drewN | apply below_drew1))
                   (case aF => exact (fun k_ hk => ⟨Kd.fresh' (Kd.R_lt (by (with_reducible repeat (first | apply Kd.R_alloc | apply Kd.R_drewN | apply Kd.R_drew)); exact HO_5.out)) k_ hk, Kd.fresh' (Kd.R_lt (by (with_reducible repeat (first | apply Kd.R_alloc | apply Kd.R_drewN | apply Kd.R_drew)); exact HO_8.out)) k_ hk, Kd.fresh' (Kd.R_lt (by (with_reducible repeat (first | apply Kd.R_alloc | apply Kd.R_drewN | apply Kd.R_drew)); exact HO200.out)) k_ hk⟩))
                   (case aO => exact ((Kd.R_nil _ _ _ _ (fun k_ => some k_ ≠ (.slice (some ad197) t177.length co21 : Value).ownBlock ∧ some k_ ≠ (.slice Ao43 x8_1.length co43 : Value).ownBlock ∧ some k_ ≠ (v199 : Value).ownBlock))))
                   (case aS => exact (below_size (by with_reducible repeat first | exact HB.out | apply below_alloc | apply pw_below_drewN | apply below_drew1)))
                   (case aL => have := LMc34.out; omega)
                   intro v195 w47 ho hb hg hat
                   (first | have HS0_ := cell_grown hg (hHeld.1) (by simp [Value.ownBlock]) | have HS0_ := cell_grown hg (cell_unalloc (hHeld.1) (World.block_lt_of_cell? _ _ (hHeld.1))) (by simp [Value.ownBlock]))
                   (first | have HS1_ := cell_grown hg (hHeld.2.1) (by simp [Value.ownBlock]) | have HS1_ := cell_grown hg (cell_unalloc (hHeld.2.1) (World.block_lt_of_cell? _ _ (hHeld.2.1))) (by simp [Value.ownBlock]))
                   (first | have HS2_ := cell_grown hg (hHeld.2.2.1) (by simp [Value.ownBlock]) | have HS2_ := cell_grown hg (cell_unalloc (hHeld.2.2.1) (World.block_lt_of_cell? _ _ (hHeld.2.2.1))) (by simp [Value.ownBlock]))
                   (first | have HS3_ := cell_grown hg (hHeld.2.2.2.1) (by simp [Value.ownBlock]) | have HS3_ := cell_grown hg (cell_unalloc (hHeld.2.2.2.1) (World.block_lt_of_cell? _ _ (hHeld.2.2.2.1))) (by simp [Value.ownBlock]))
                   (first | have HS4_ := cell_grown hg (hHeld.2.2.2.2.1) (by simp [Value.ownBlock]) | have HS4_ := cell_grown hg (cell_unalloc (hHeld.2.2.2.2.1) (World.block_lt_of_cell? _ _ (hHeld.2.2.2.2.1))) (by simp [Value.ownBlock]))
                   (first | have HS5_ := cell_grown hg (hHeld.2.2.2.2.2.1) (by simp [Value.ownBlock]) | have HS5_ := cell_grown hg (cell_unalloc (hHeld.2.2.2.2.2.1) (World.block_lt_of_cell? _ _ (hHeld.2.2.2.2.2.1))) (by simp [Value.ownBlock]))
                   (first | have HS6_ := cell_grown hg (hHeld.2.2.2.2.2.2.1) (by simp [Value.ownBlock]) | have HS6_ := cell_grown hg (cell_unalloc (hHeld.2.2.2.2.2.2.1) (World.block_lt_of_cell? _ _ (hHeld.2.2.2.2.2.2.1))) (by simp [Value.ownBlock]))
                   (first | have HS7_ := cell_grown hg (hHeld.2.2.2.2.2.2.2) (by simp [Value.ownBlock]) | have HS7_ := cell_grown hg (cell_unalloc (hHeld.2.2.2.2.2.2.2) (World.block_lt_of_cell? _ _ (hHeld.2.2.2.2.2.2.2))) (by simp [Value.ownBlock]))
                   rw [← Ny194.out] at ho
                   have n0_ := Aside0.mk (Kd.R_after (Kd.R_apart_nil (by (with_reducible repeat (first | apply Kd.R_alloc | apply Kd.R_drewN | apply Kd.R_drew)); exact HO_5.out)) hg hat)
                   have n1_ := Aside0.mk (Kd.R_after (Kd.R_apart_nil (by (with_reducible repeat (first | apply Kd.R_alloc | apply Kd.R_drewN | apply Kd.R_drew)); exact HO_8.out)) hg hat)
                   have n2_ := Aside0.mk (Kd.V_afterv (Kd.V_apart_nil (by (with_reducible repeat (first | apply Kd.V_alloc | apply Kd.V_drewN | apply Kd.V_drew)); exact HO193.out)) hg hat)
                   have n3_ := Aside0.mk (Kd.V_afterv (Kd.V_apart_nil (by (with_reducible repeat (first | apply Kd.V_alloc | apply Kd.V_drewN | apply Kd.V_drew)); exact HO208.out)) hg hat)
                   have n4_ := Aside0.mk (Kd.R_after (Kd.R_apart_nil (by (with_reducible repeat (first | apply Kd.R_alloc | apply Kd.R_drewN | apply Kd.R_drew)); exact HO200.out)) hg hat)
                   have n5_ := Aside0.mk (hb)
                   have n6_ := Aside0.mk (ho)
                   clear HO_5
                   clear HO_8
                   clear HO193
                   clear HO208
                   clear HO200
                   clear HB
                   have HO_5 := n0_
                   have HO_8 := n1_
                   have HO193 := n2_
                   have HO208 := n3_
                   have HO200 := n4_
                   have HB := n5_
                   have HO196 := n6_
                   clear n0_ n1_ n2_ n3_ n4_ n5_ n6_
                   clear ho hb hg hat
                   refine hK.out _ _ ⟨HS0_, HS1_, HS2_, HS3_, HS4_, HS5_, HS6_, HS7_⟩ (fun hHeld => ?_)
                   clear hK K
                   refine norm_ (a' := ?_) ?_ ?_
                   rotate_left
                   ·show Act.put _ (some 67) _ = _
                    simp only [Act.put, List.setIfInBounds_toArray, List.set_cons_zero, List.set_cons_succ, i64_w, i32_w]
                    rfl
                   exact norm_ (by simp only [putAll, Act.put, List.setIfInBounds_toArray, List.set_cons_zero, List.set_cons_succ]) (hCont (v195, v199) _ ⟨hHeld, (by (with_reducible repeat (first | apply Kd.V_alloc | apply Kd.V_drewN | apply Kd.V_drew)); exact Kd.V_mono HO193.out (fun _ hk => ⟨hk.2, ⟨hk.1.2, hk.1.1⟩⟩)), (by (with_reducible repeat (first | apply Kd.R_alloc | apply Kd.R_drewN | apply Kd.R_drew)); exact Kd.R_mono HO196.out (fun _ hk => ⟨hk.2.2, ⟨hk.1, hk.2.1⟩⟩)), (by (with_reducible repeat (first | apply Kd.R_alloc | apply Kd.R_drewN | apply Kd.R_drew)); exact Kd.R_mono HO200.out (fun _ hk => ⟨hk.2, ⟨hk.1.1.2, hk.1.2⟩⟩)), (by (with_reducible repeat (first | apply Kd.V_alloc | apply Kd.V_drewN | apply Kd.V_drew)); exact Kd.V_mono HO208.out (fun _ hk => ⟨hk.2, ⟨hk.1.2, hk.1.1⟩⟩)), (by (with_reducible repeat (first | apply Kd.R_alloc | apply Kd.R_drewN | apply Kd.R_drew)); exact Kd.R_mono HO_5.out (fun _ hk => ⟨hk.2, ⟨hk.1.2, hk.1.1⟩⟩)), (by (with_reducible repeat (first | apply Kd.R_alloc | apply Kd.R_drewN | apply Kd.R_drew)); exact Kd.R_mono HO_8.out (fun _ hk => ⟨hk.2, ⟨hk.1.2, hk.1.1⟩⟩)), (by with_reducible repeat first | exact HB.out | apply below_alloc | apply pw_below_drewN | apply below_drew1)⟩)
                 rintro ⟨v195, v199⟩ w48 ⟨hS_, h0_, h1_, h2_, h3_, h4_, h5_, h6_⟩
                 have n0_ : Aside0 (Kd.V k38 38 w48 w.heap.size (fun k_ => some k_ ≠ (v195 : Value).ownBlock ∧ some k_ ≠ (v199 : Value).ownBlock ∧ some k_ ≠ (.slice (some ad197) t177.length co21 : Value).ownBlock) (.slice Ao43 y189.length co43) y189) := ⟨h0_⟩
                 have n1_ : Aside0 (Kd.R k38 38 w48 w.heap.size (fun k_ => some k_ ≠ (v199 : Value).ownBlock ∧ some k_ ≠ (.slice (some ad197) t177.length co21 : Value).ownBlock ∧ some k_ ≠ (.slice Ao43 x8_1.length co43 : Value).ownBlock) v195 y194) := ⟨h1_⟩
                 have n2_ : Aside0 (Kd.R k38 38 w48 w.heap.size (fun k_ => some k_ ≠ (v195 : Value).ownBlock ∧ some k_ ≠ (.slice (some ad197) t177.length co21 : Value).ownBlock ∧ some k_ ≠ (.slice Ao43 x8_1.length co43 : Value).ownBlock) v199 y198) := ⟨h2_⟩
                 have n3_ : Aside0 (Kd.V k38 38 w48 w.heap.size (fun k_ => some k_ ≠ (v195 : Value).ownBlock ∧ some k_ ≠ (v199 : Value).ownBlock ∧ some k_ ≠ (.slice (some ad197) t177.length co21 : Value).ownBlock) (.slice A44 y204.length c44) y204) := ⟨h3_⟩
                 have n4_ : Aside0 (Kd.R k38 38 w48 w.heap.size (fun k_ => some k_ ≠ (v195 : Value).ownBlock ∧ some k_ ≠ (v199 : Value).ownBlock ∧ some k_ ≠ (.slice Ao43 x8_1.length co43 : Value).ownBlock) (.slice (some ad197) t177.length co21) t177) := ⟨h4_⟩
                 have n5_ : Aside0 (Kd.R k38 38 w48 w.heap.size (fun k_ => some k_ ≠ (v195 : Value).ownBlock ∧ some k_ ≠ (v199 : Value).ownBlock ∧ some k_ ≠ (.slice (some ad197) t177.length co21 : Value).ownBlock) (.slice Ao43 x8_1.length co43) x8_1) := ⟨h5_⟩
                 have n6_ : Aside0 (Below w.heap.size w w48) := ⟨h6_⟩
                 clear HO_5
                 clear HO_8
                 clear HB
                 clear h0_ h1_ h2_ h3_ h4_ h5_ h6_
                 have HO193 := n0_
                 have HO196 := n1_
                 have HO200 := n2_
                 have HO208 := n3_
                 have HO_5 := n4_
                 have HO_8 := n5_
                 have HB := n6_
                 clear n0_ n1_ n2_ n3_ n4_ n5_ n6_
                 have hHeld : w48.cell? (ad197.add ((x9_1).toNat * 8)) = some (.int .i64 ((rd_T38 t177 x9_1).f0)) ∧ w48.cell? ⟨(ad197.add ((x9_1).toNat * 8)).block, (ad197.add ((x9_1).toNat * 8)).off + 1, none⟩ = some (.int .i64 ((rd_T38 t177 x9_1).f1)) ∧ w48.cell? ⟨(ad197.add ((x9_1).toNat * 8)).block, (ad197.add ((x9_1).toNat * 8)).off + 2, none⟩ = some (.bool ((rd_T38 t177 x9_1).f2.f0)) ∧ w48.cell? ⟨(ad197.add ((x9_1).toNat * 8)).block, (ad197.add ((x9_1).toNat * 8)).off + 3, none⟩ = some (.int .i64 ((rd_T38 t177 x9_1).f2.f1)) ∧ w48.cell? ⟨(ad197.add ((x9_1).toNat * 8)).block, (ad197.add ((x9_1).toNat * 8)).off + 4, none⟩ = some (.string ((rd_T38 t177 x9_1).f2.f2)) ∧ w48.cell? ⟨(ad197.add ((x9_1).toNat * 8)).block, (ad197.add ((x9_1).toNat * 8)).off + 5, none⟩ = some (.bool ((rd_T38 t177 x9_1).f3.f0)) ∧ w48.cell? ⟨(ad197.add ((x9_1).toNat * 8)).block, (ad197.add ((x9_1).toNat * 8)).off + 6, none⟩ = some (.int .i64 ((rd_T38 t177 x9_1).f3.f1)) ∧ w48.cell? ⟨(ad197.add ((x9_1).toNat * 8)).block, (ad197.add ((x9_1).toNat * 8)).off + 7, none⟩ = some (.string ((rd_T38 t177 x9_1).f3.f2)) := hS_
                 obtain ⟨Ao50, co50, eo50⟩ := Kd.R_slice HO200.out
                 (first | subst eo50 | (injection eo50 with f1_ f2_ f3_; have f4_ := f1_.symm; have f5_ := f3_.symm; clear f1_ f2_ f3_; subst f4_; subst f5_))
                 refine norm_ (a' := ?_) ?_ ?_
                 rotate_left
                 ·simp only [putAll, Act.put, List.setIfInBounds_toArray, List.set_cons_zero, List.set_cons_succ]
                  rfl
                 refine last_ (i := 9) (N := some 73) #[true, true, true, true, true, true, true, true, true, true, true, true, true, false, false] rfl rfl (one_of HT_.out (by kernel_rfl)) (by decide) (fun K hK => ?_)
                 refine Kd.R_append_rows_step k38 (w0 := w) w.heap.size (by rfl) (.tmp 67) (.tmp 72) 22 38 (.agg #[(.int .i64 0), (.int .i64 0), (.bool false), (.int .i64 0), (.string ⟨#[]⟩), (.bool false), (.int .i64 0), (.string ⟨#[]⟩)]) 80 rfl Try.underlying22 info38 rfl (by decide) (by omega) v195 y194 y198 _ _ _ (fun k_ => some k_ ≠ (.slice (some ad197) t177.length co21 : Value).ownBlock ∧ some k_ ≠ (.slice Ao43 x8_1.length co43 : Value).ownBlock ∧ some k_ ≠ (.slice Ao50 y198.length co50 : Value).ownBlock) (fun _ => False) rfl rfl ?aO ?aR (fun _ _ h => h) (fun _ h => h.elim) ?aF ?aB ?aS ?aL ?_
                 (case aR => repeat (first | exact (Kd.R_reads' HO200.out).2.2 | (with_reducible refine Kd.C_alloc ?_ _) | (with_reducible refine Kd.C_drewN ?_ _) | (with_reducible refine Kd.C_drew ?_)))
                 (case aB => exact (by with_reducible repeat first | exact HB.out | apply below_alloc | apply pw_below_drewN | apply below_drew1))
                 (case aF => exact (fun k_ hk => ⟨Kd.fresh' (Kd.R_lt (by (with_reducible repeat (first | apply Kd.R_alloc | apply Kd.R_drewN | apply Kd.R_drew)); exact HO_5.out)) k_ hk, Kd.fresh' (Kd.R_lt (by (with_reducible repeat (first | apply Kd.R_alloc | apply Kd.R_drewN | apply Kd.R_drew)); exact HO_8.out)) k_ hk, Kd.fresh' (Kd.R_lt (by (with_reducible repeat (first | apply Kd.R_alloc | apply Kd.R_drewN | apply Kd.R_drew)); exact HO200.out)) k_ hk⟩))
                 (case aO => exact (by (with_reducible repeat (first | apply Kd.R_alloc | apply Kd.R_drewN | apply Kd.R_drew)); exact Kd.R_mono HO196.out (fun _ hk => ⟨hk.2.1, ⟨hk.2.2, hk.1⟩⟩)))
                 (case aS => exact (below_size (by with_reducible repeat first | exact HB.out | apply below_alloc | apply pw_below_drewN | apply below_drew1)))
                 (case aL => have := LMc37.out; omega)
                 intro v202 w49 ho hb hg hat
                 rw [← Ny201.out] at ho
                 have n0_ := Aside0.mk (Kd.R_after (ok := (fun k_ => some k_ ≠ (.slice Ao43 x8_1.length co43 : Value).ownBlock ∧ some k_ ≠ (.slice Ao50 y198.length co50 : Value).ownBlock)) (by (with_reducible repeat (first | apply Kd.R_alloc | apply Kd.R_drewN | apply Kd.R_drew)); exact Kd.R_mono HO_5.out (fun _ hk => ⟨⟨hk.2.2, hk.2.1⟩, hk.1⟩)) hg hat)
                 have n1_ := Aside0.mk (Kd.R_after (ok := (fun k_ => some k_ ≠ (.slice (some ad197) t177.length co21 : Value).ownBlock ∧ some k_ ≠ (.slice Ao50 y198.length co50 : Value).ownBlock)) (by (with_reducible repeat (first | apply Kd.R_alloc | apply Kd.R_drewN | apply Kd.R_drew)); exact Kd.R_mono HO_8.out (fun _ hk => ⟨⟨hk.2.2, hk.2.1⟩, hk.1⟩)) hg hat)
                 have n2_ := Aside0.mk (Kd.V_afterv (ok := (fun k_ => some k_ ≠ (.slice (some ad197) t177.length co21 : Value).ownBlock ∧ some k_ ≠ (.slice Ao50 y198.length co50 : Value).ownBlock)) (by (with_reducible repeat (first | apply Kd.V_alloc | apply Kd.V_drewN | apply Kd.V_drew)); exact Kd.V_mono HO193.out (fun _ hk => ⟨⟨hk.2.2, hk.2.1⟩, hk.1⟩)) hg hat)
                 have n3_ := Aside0.mk (Kd.V_afterv (ok := (fun k_ => some k_ ≠ (.slice (some ad197) t177.length co21 : Value).ownBlock ∧ some k_ ≠ (.slice Ao50 y198.length co50 : Value).ownBlock)) (by (with_reducible repeat (first | apply Kd.V_alloc | apply Kd.V_drewN | apply Kd.V_drew)); exact Kd.V_mono HO208.out (fun _ hk => ⟨⟨hk.2.2, hk.2.1⟩, hk.1⟩)) hg hat)
                 have n4_ := Aside0.mk (Kd.R_after (ok := (fun k_ => some k_ ≠ (.slice (some ad197) t177.length co21 : Value).ownBlock ∧ some k_ ≠ (.slice Ao43 x8_1.length co43 : Value).ownBlock)) (by (with_reducible repeat (first | apply Kd.R_alloc | apply Kd.R_drewN | apply Kd.R_drew)); exact Kd.R_mono HO200.out (fun _ hk => ⟨⟨hk.2.1, hk.2.2⟩, hk.1⟩)) hg hat)
                 have n5_ := Aside0.mk (hb)
                 have n6_ := Aside0.mk (ho)
                 clear HO_5
                 clear HO_8
                 clear HO193
                 clear HO208
                 clear HO200
                 clear HB
                 clear HO196
                 have HO_5 := n0_
                 have HO_8 := n1_
                 have HO193 := n2_
                 have HO208 := n3_
                 have HO200 := n4_
                 have HB := n5_
                 have HO203 := n6_
                 clear n0_ n1_ n2_ n3_ n4_ n5_ n6_
                 clear ho hb hg hat
                 refine hK.out _ _ ?_
                 clear hK K
                 refine norm_ (a' := ?_) ?_ ?_
                 rotate_left
                 ·show Act.put _ (some 73) _ = _
                  simp only [Act.put, List.setIfInBounds_toArray, List.set_cons_zero, List.set_cons_succ, i64_w, i32_w]
                  rfl
                 refine last_ (i := 13) (N := some 77) #[true, true, true, true, true, true, true, true, true, true, true, true, true, true, false] rfl rfl (one_of HT_.out (by kernel_rfl)) (by decide) (fun K hK => ?_)
                 refine Kd.R_append_rows_step k38 (w0 := w) w.heap.size (by rfl) (.tmp 73) (.tmp 76) 22 38 (.agg #[(.int .i64 0), (.int .i64 0), (.bool false), (.int .i64 0), (.string ⟨#[]⟩), (.bool false), (.int .i64 0), (.string ⟨#[]⟩)]) 80 rfl Try.underlying22 info38 rfl (by decide) (by omega) v202 y201 y204 _ _ _ (fun k_ => some k_ ≠ (.slice (some ad197) t177.length co21 : Value).ownBlock ∧ some k_ ≠ (.slice Ao43 x8_1.length co43 : Value).ownBlock ∧ some k_ ≠ (.slice Ao50 y198.length co50 : Value).ownBlock) (fun _ => False) rfl rfl ?aO ?aR (fun _ _ h => h) (fun _ h => h.elim) ?aF ?aB ?aS ?aL ?_
                 (case aR => repeat (first | exact (Kd.V_reads' HO208.out).2.2 | (with_reducible refine Kd.C_alloc ?_ _) | (with_reducible refine Kd.C_drewN ?_ _) | (with_reducible refine Kd.C_drew ?_)))
                 (case aB => exact (by with_reducible repeat first | exact HB.out | apply below_alloc | apply pw_below_drewN | apply below_drew1))
                 (case aF => exact (fun k_ hk => ⟨Kd.fresh' (Kd.R_lt (by (with_reducible repeat (first | apply Kd.R_alloc | apply Kd.R_drewN | apply Kd.R_drew)); exact HO_5.out)) k_ hk, Kd.fresh' (Kd.R_lt (by (with_reducible repeat (first | apply Kd.R_alloc | apply Kd.R_drewN | apply Kd.R_drew)); exact HO_8.out)) k_ hk, Kd.fresh' (Kd.R_lt (by (with_reducible repeat (first | apply Kd.R_alloc | apply Kd.R_drewN | apply Kd.R_drew)); exact HO200.out)) k_ hk⟩))
                 (case aO => exact (by (with_reducible repeat (first | apply Kd.R_alloc | apply Kd.R_drewN | apply Kd.R_drew)); exact HO203.out))
                 (case aS => exact (below_size (by with_reducible repeat first | exact HB.out | apply below_alloc | apply pw_below_drewN | apply below_drew1)))
                 (case aL => have := LMc40.out; omega)
                 intro v210 w51 ho hb hg hat
                 rw [← Ny209.out] at ho
                 have n0_ := Aside0.mk (Kd.R_after (ok := (fun k_ => some k_ ≠ (.slice Ao43 x8_1.length co43 : Value).ownBlock ∧ some k_ ≠ (.slice Ao50 y198.length co50 : Value).ownBlock)) (by (with_reducible repeat (first | apply Kd.R_alloc | apply Kd.R_drewN | apply Kd.R_drew)); exact HO_5.out) hg hat)
                 have n1_ := Aside0.mk (Kd.R_after (ok := (fun k_ => some k_ ≠ (.slice (some ad197) t177.length co21 : Value).ownBlock ∧ some k_ ≠ (.slice Ao50 y198.length co50 : Value).ownBlock)) (by (with_reducible repeat (first | apply Kd.R_alloc | apply Kd.R_drewN | apply Kd.R_drew)); exact HO_8.out) hg hat)
                 have n2_ := Aside0.mk (Kd.V_afterv (ok := (fun k_ => some k_ ≠ (.slice (some ad197) t177.length co21 : Value).ownBlock ∧ some k_ ≠ (.slice Ao50 y198.length co50 : Value).ownBlock)) (by (with_reducible repeat (first | apply Kd.V_alloc | apply Kd.V_drewN | apply Kd.V_drew)); exact HO193.out) hg hat)
                 have n3_ := Aside0.mk (Kd.V_afterv (ok := (fun k_ => some k_ ≠ (.slice (some ad197) t177.length co21 : Value).ownBlock ∧ some k_ ≠ (.slice Ao50 y198.length co50 : Value).ownBlock)) (by (with_reducible repeat (first | apply Kd.V_alloc | apply Kd.V_drewN | apply Kd.V_drew)); exact HO208.out) hg hat)
                 have n4_ := Aside0.mk (Kd.R_after (ok := (fun k_ => some k_ ≠ (.slice (some ad197) t177.length co21 : Value).ownBlock ∧ some k_ ≠ (.slice Ao43 x8_1.length co43 : Value).ownBlock)) (by (with_reducible repeat (first | apply Kd.R_alloc | apply Kd.R_drewN | apply Kd.R_drew)); exact HO200.out) hg hat)
                 have n5_ := Aside0.mk (hb)
                 have n6_ := Aside0.mk (ho)
                 clear HO_5
                 clear HO_8
                 clear HO193
                 clear HO208
                 clear HO200
                 clear HB
                 clear HO203
                 have HO_5 := n0_
                 have HO_8 := n1_
                 have HO193 := n2_
                 have HO208 := n3_
                 have HO200 := n4_
                 have HB := n5_
                 have HO211 := n6_
                 clear n0_ n1_ n2_ n3_ n4_ n5_ n6_
                 clear ho hb hg hat
                 refine hK.out _ _ ?_
                 clear hK K
                 refine norm_ (a' := ?_) ?_ ?_
                 rotate_left
                 ·show Act.put _ (some 77) _ = _
                  simp only [Act.put, List.setIfInBounds_toArray, List.set_cons_zero, List.set_cons_succ, i64_w, i32_w]
                  rfl
                 refine pure_ (i := 14) (N := some 8) (v := ?_) (a' := ?_) #[true, true, true, true, true, true, true, true, true, true, true, true, true, true, true] rfl rfl (any_of HT_.out (by kernel_rfl)) (fun _ _ _ h => h) (Or.inl ⟨by rfl, ?_⟩) ?_ ?_
                 rotate_left
                 ·intro w'
                  go_simp
                  with_reducible rfl
                 rotate_left
                 ·simp only [Act.put, List.setIfInBounds_toArray, List.set_cons_zero, List.set_cons_succ, i64_w, i32_w]
                  rfl
                 refine done_ (done_of HT_.out (by kernel_rfl)) ?_
                 try go_wp2
                 go_roundg kj21
                 case measure => have := HK1.out; have := HK2.out; have := HJ21.out; omega
                 case rel => exact ⟨(y209), (wrap64 (x9_1 + 1)), (by first | rfl | (simp; done) | (simp [*]; done)), H', ⟨by have := HK1.out; have := HK2.out; have := HJ21.out; omega⟩, ⟨by (with_reducible repeat (first | apply Kd.R_alloc | apply Kd.R_drewN | apply Kd.R_drew)); exact Kd.R_mono HO_5.out (fun _ hk => hk.2)⟩, ⟨by (with_reducible repeat (first | apply Kd.R_alloc | apply Kd.R_drewN | apply Kd.R_drew)); exact Kd.R_mono HO211.out (fun _ hk => hk.1)⟩, ⟨by repeat (first | (with_reducible first | exact HB.out | apply below_alloc | apply pw_below_drewN | apply below_drew1) | exact HB.out)⟩⟩
                ·rw [if_neg c40] at H
                 exact absurd H (by simp)
               ·rw [if_neg c37] at H
                exact absurd H (by simp)
              ·rw [if_neg c36] at H
               exact absurd H (by simp)
             ·rw [if_neg c35] at H
              exact absurd H (by simp)
            ·rw [if_neg c34] at H
             exact absurd H (by simp)
           ·rw [if_neg c33] at H
            exact absurd H (by simp)
          ·rw [if_neg c32] at H
           exact absurd H (by simp)
    ·rw [if_neg c20] at H
     have c20b0 : decide (x9_1 < (t177.length : Int)) = false := decide_eq_false c20
     clear c20
     obtain rfl := Option.some.inj H
     obtain ⟨Ao52, co52, eo52⟩ := Kd.R_slice HO_5.out
     subst eo52
     go_wp2
     go_ret
     exact ⟨_, by first | rfl | (simp [errW_none, errW_some] <;> rfl) | (simp [*, errW_none, errW_some] <;> rfl), by (with_reducible repeat (first | apply Kd.R_alloc | apply Kd.R_drewN | apply Kd.R_drew)); exact Kd.R_mono HO_8.out (fun _ hk => trivial), by repeat (first | (with_reducible first | exact HB.out | apply below_alloc | apply pw_below_drewN | apply below_drew1) | exact HB.out)⟩

end Go.Proofs.Ytcbgcmaioicdbaa.Pr
