-- printed by xprint.py
import Derived.Test.YtnfliommpdjlkaaPr0
import Derived.Test.YtnfliommpdjlkaaPrf45
import Derived.Test.YtnfliommpdjlkaaPrf46
import Derived.Test.YtnfliommpdjlkaaPrf49
import Derived.Test.YtnfliommpdjlkaaThy
namespace Go.Proofs.Ytnfliommpdjlkaa.Pr
open Go.RowKit Go.Proofs.YtnfliommpdjlkaaW PrintWords PrintLast PrintMore
set_option linter.unusedVariables false
set_option linter.unusedSimpArgs false

/-! ### zone_Join: function 25 -/
mutual
def zone_Join.l0 : Nat → Int → Bool → Bool → Bool → Int → ByteArray → Bool → Int → ByteArray → Bool → Bool → Bool → Int → ByteArray → Bool → Int → ByteArray → Bool → Bool → Bool → Int → ByteArray → Bool → Int → ByteArray → Option (Bool × Bool × Bool × Int × ByteArray × Bool × Int × ByteArray)
 | 0, _, _, _, _, _, _, _, _, _, _, _, _, _, _, _, _, _, _, _, _, _, _, _, _, _ => none
 | k + 1, x12, x146000, x146001, x146002, x146003, x146004, x146005, x146006, x146007, x147000, x147001, x147002, x147003, x147004, x147005, x147006, x147007, x149000, x149001, x149002, x149003, x149004, x149005, x149006, x149007 => if x12 < 2 then (if 0 ≤ x12 then (if x149000 = true then (zone_Join.j1 k x12 x146000 x146001 x146002 x146003 x146004 x146005 x146006 x146007 x147000 x147001 x147002 x147003 x147004 x147005 x147006 x147007 true x149001 x149002 x149003 x149004 x149005 x149006 x149007 (pick2 x12 x146000 x147000) (pick2 x12 x146001 x147001) (pick2 x12 x146002 x147002) (pick2 x12 x146003 x147003) (pick2 x12 x146004 x147004) (pick2 x12 x146005 x147005) (pick2 x12 x146006 x147006) (pick2 x12 x146007 x147007)) else (zone_Join.j1 k x12 x146000 x146001 x146002 x146003 x146004 x146005 x146006 x146007 x147000 x147001 x147002 x147003 x147004 x147005 x147006 x147007 (pick2 x12 x146000 x147000) x149001 x149002 x149003 x149004 x149005 x149006 x149007 (pick2 x12 x146000 x147000) (pick2 x12 x146001 x147001) (pick2 x12 x146002 x147002) (pick2 x12 x146003 x147003) (pick2 x12 x146004 x147004) (pick2 x12 x146005 x147005) (pick2 x12 x146006 x147006) (pick2 x12 x146007 x147007))) else (none)) else (some (x149000, x149001, x149002, x149003, x149004, x149005, x149006, x149007))
def zone_Join.j1 : Nat → Int → Bool → Bool → Bool → Int → ByteArray → Bool → Int → ByteArray → Bool → Bool → Bool → Int → ByteArray → Bool → Int → ByteArray → Bool → Bool → Bool → Int → ByteArray → Bool → Int → ByteArray → Bool → Bool → Bool → Int → ByteArray → Bool → Int → ByteArray → Option (Bool × Bool × Bool × Int × ByteArray × Bool × Int × ByteArray)
 | 0, _, _, _, _, _, _, _, _, _, _, _, _, _, _, _, _, _, _, _, _, _, _, _, _, _, _, _, _, _, _, _, _, _ => none
 | k + 1, x12, x146000, x146001, x146002, x146003, x146004, x146005, x146006, x146007, x147000, x147001, x147002, x147003, x147004, x147005, x147006, x147007, x149000, x149001, x149002, x149003, x149004, x149005, x149006, x149007, x150000, x150001, x150002, x150003, x150004, x150005, x150006, x150007 => if x150001 = true then ((zone_ordered_c.f x150000 x150001 x150002 x150003 x150004 x150005 x150006 x150007).bind fun bt150 => (if x149001 = true then ((kinds_Compare_c.f bt150.2.2.1 bt150.2.2.2.1 bt150.2.2.2.2.1 x149002 x149003 x149004).bind fun t158 => (if t158 < 0 then (zone_Join.j2 k x12 x146000 x146001 x146002 x146003 x146004 x146005 x146006 x146007 x147000 x147001 x147002 x147003 x147004 x147005 x147006 x147007 x149000 x149001 bt150.2.2.1 bt150.2.2.2.1 bt150.2.2.2.2.1 x149005 x149006 x149007 bt150.1 bt150.2.1 bt150.2.2.1 bt150.2.2.2.1 bt150.2.2.2.2.1 bt150.2.2.2.2.2.1 bt150.2.2.2.2.2.2.1 bt150.2.2.2.2.2.2.2) else (zone_Join.j2 k x12 x146000 x146001 x146002 x146003 x146004 x146005 x146006 x146007 x147000 x147001 x147002 x147003 x147004 x147005 x147006 x147007 x149000 x149001 x149002 x149003 x149004 x149005 x149006 x149007 bt150.1 bt150.2.1 bt150.2.2.1 bt150.2.2.2.1 bt150.2.2.2.2.1 bt150.2.2.2.2.2.1 bt150.2.2.2.2.2.2.1 bt150.2.2.2.2.2.2.2))) else (zone_Join.l0 k (wrap64 (x12 + 1)) x146000 x146001 x146002 x146003 x146004 x146005 x146006 x146007 x147000 x147001 x147002 x147003 x147004 x147005 x147006 x147007 x149000 bt150.2.1 bt150.2.2.1 bt150.2.2.2.1 bt150.2.2.2.2.1 bt150.2.2.2.2.2.1 bt150.2.2.2.2.2.2.1 bt150.2.2.2.2.2.2.2))) else (zone_Join.l0 k (wrap64 (x12 + 1)) x146000 x146001 x146002 x146003 x146004 x146005 x146006 x146007 x147000 x147001 x147002 x147003 x147004 x147005 x147006 x147007 x149000 x149001 x149002 x149003 x149004 x149005 x149006 x149007)
def zone_Join.j2 : Nat → Int → Bool → Bool → Bool → Int → ByteArray → Bool → Int → ByteArray → Bool → Bool → Bool → Int → ByteArray → Bool → Int → ByteArray → Bool → Bool → Bool → Int → ByteArray → Bool → Int → ByteArray → Bool → Bool → Bool → Int → ByteArray → Bool → Int → ByteArray → Option (Bool × Bool × Bool × Int × ByteArray × Bool × Int × ByteArray)
 | 0, _, _, _, _, _, _, _, _, _, _, _, _, _, _, _, _, _, _, _, _, _, _, _, _, _, _, _, _, _, _, _, _, _ => none
 | k + 1, x12, x146000, x146001, x146002, x146003, x146004, x146005, x146006, x146007, x147000, x147001, x147002, x147003, x147004, x147005, x147006, x147007, x149000, x149001, x149002, x149003, x149004, x149005, x149006, x149007, x150000, x150001, x150002, x150003, x150004, x150005, x150006, x150007 => (kinds_Compare_c.f x150005 x150006 x150007 x149005 x149006 x149007).bind fun t159 => (if t159 > 0 then (zone_Join.l0 k (wrap64 (x12 + 1)) x146000 x146001 x146002 x146003 x146004 x146005 x146006 x146007 x147000 x147001 x147002 x147003 x147004 x147005 x147006 x147007 x149000 x149001 x149002 x149003 x149004 x150005 x150006 x150007) else (zone_Join.l0 k (wrap64 (x12 + 1)) x146000 x146001 x146002 x146003 x146004 x146005 x146006 x146007 x147000 x147001 x147002 x147003 x147004 x147005 x147006 x147007 x149000 x149001 x149002 x149003 x149004 x149005 x149006 x149007))
end
def zone_Join.f (k : Nat) (a0_0 : Bool) (a0_1 : Bool) (a0_2 : Bool) (a0_3 : Int) (a0_4 : ByteArray) (a0_5 : Bool) (a0_6 : Int) (a0_7 : ByteArray) (a1_0 : Bool) (a1_1 : Bool) (a1_2 : Bool) (a1_3 : Int) (a1_4 : ByteArray) (a1_5 : Bool) (a1_6 : Int) (a1_7 : ByteArray) : Option (Bool × Bool × Bool × Int × ByteArray × Bool × Int × ByteArray) := zone_Join.l0 k 0 a0_0 a0_1 a0_2 a0_3 a0_4 a0_5 a0_6 a0_7 a1_0 a1_1 a1_2 a1_3 a1_4 a1_5 a1_6 a1_7 false false false 0 (⟨#[]⟩ : ByteArray) false 0 (⟨#[]⟩ : ByteArray)
theorem zone_Join.mono_l : ∀ k, (∀ y0 y1 y2 y3 y4 y5 y6 y7 y8 y9 y10 y11 y12 y13 y14 y15 y16 y17 y18 y19 y20 y21 y22 y23 y24, LeO (zone_Join.l0 k y0 y1 y2 y3 y4 y5 y6 y7 y8 y9 y10 y11 y12 y13 y14 y15 y16 y17 y18 y19 y20 y21 y22 y23 y24) (zone_Join.l0 (k + 1) y0 y1 y2 y3 y4 y5 y6 y7 y8 y9 y10 y11 y12 y13 y14 y15 y16 y17 y18 y19 y20 y21 y22 y23 y24)) ∧ (∀ y0 y1 y2 y3 y4 y5 y6 y7 y8 y9 y10 y11 y12 y13 y14 y15 y16 y17 y18 y19 y20 y21 y22 y23 y24 y25 y26 y27 y28 y29 y30 y31 y32, LeO (zone_Join.j1 k y0 y1 y2 y3 y4 y5 y6 y7 y8 y9 y10 y11 y12 y13 y14 y15 y16 y17 y18 y19 y20 y21 y22 y23 y24 y25 y26 y27 y28 y29 y30 y31 y32) (zone_Join.j1 (k + 1) y0 y1 y2 y3 y4 y5 y6 y7 y8 y9 y10 y11 y12 y13 y14 y15 y16 y17 y18 y19 y20 y21 y22 y23 y24 y25 y26 y27 y28 y29 y30 y31 y32)) ∧ (∀ y0 y1 y2 y3 y4 y5 y6 y7 y8 y9 y10 y11 y12 y13 y14 y15 y16 y17 y18 y19 y20 y21 y22 y23 y24 y25 y26 y27 y28 y29 y30 y31 y32, LeO (zone_Join.j2 k y0 y1 y2 y3 y4 y5 y6 y7 y8 y9 y10 y11 y12 y13 y14 y15 y16 y17 y18 y19 y20 y21 y22 y23 y24 y25 y26 y27 y28 y29 y30 y31 y32) (zone_Join.j2 (k + 1) y0 y1 y2 y3 y4 y5 y6 y7 y8 y9 y10 y11 y12 y13 y14 y15 y16 y17 y18 y19 y20 y21 y22 y23 y24 y25 y26 y27 y28 y29 y30 y31 y32))
 | 0 => ⟨fun _ _ _ _ _ _ _ _ _ _ _ _ _ _ _ _ _ _ _ _ _ _ _ _ _ r h => by simp [zone_Join.l0] at h, fun _ _ _ _ _ _ _ _ _ _ _ _ _ _ _ _ _ _ _ _ _ _ _ _ _ _ _ _ _ _ _ _ _ r h => by simp [zone_Join.j1] at h, fun _ _ _ _ _ _ _ _ _ _ _ _ _ _ _ _ _ _ _ _ _ _ _ _ _ _ _ _ _ _ _ _ _ r h => by simp [zone_Join.j2] at h⟩
 | k + 1 => by
  obtain ⟨ih0, ih1, ih2⟩ := zone_Join.mono_l k
  refine ⟨?_, ?_, ?_⟩
  ·intro y0 y1 y2 y3 y4 y5 y6 y7 y8 y9 y10 y11 y12 y13 y14 y15 y16 y17 y18 y19 y20 y21 y22 y23 y24
   unfold zone_Join.l0
   repeat' first
   | (with_reducible exact ih0 _ _ _ _ _ _ _ _ _ _ _ _ _ _ _ _ _ _ _ _ _ _ _ _ _)
   | (with_reducible exact ih1 _ _ _ _ _ _ _ _ _ _ _ _ _ _ _ _ _ _ _ _ _ _ _ _ _ _ _ _ _ _ _ _ _)
   | (with_reducible exact ih2 _ _ _ _ _ _ _ _ _ _ _ _ _ _ _ _ _ _ _ _ _ _ _ _ _ _ _ _ _ _ _ _ _)
   | (with_reducible exact LeO.refl _)
   | (with_reducible exact LeO.none _)
   | (with_reducible refine LeO.ite ?_ ?_)
   | (with_reducible refine LeO.bind ?_ (fun _ => ?_))
  ·intro y0 y1 y2 y3 y4 y5 y6 y7 y8 y9 y10 y11 y12 y13 y14 y15 y16 y17 y18 y19 y20 y21 y22 y23 y24 y25 y26 y27 y28 y29 y30 y31 y32
   unfold zone_Join.j1
   repeat' first
   | (with_reducible exact ih0 _ _ _ _ _ _ _ _ _ _ _ _ _ _ _ _ _ _ _ _ _ _ _ _ _)
   | (with_reducible exact ih1 _ _ _ _ _ _ _ _ _ _ _ _ _ _ _ _ _ _ _ _ _ _ _ _ _ _ _ _ _ _ _ _ _)
   | (with_reducible exact ih2 _ _ _ _ _ _ _ _ _ _ _ _ _ _ _ _ _ _ _ _ _ _ _ _ _ _ _ _ _ _ _ _ _)
   | (with_reducible exact LeO.refl _)
   | (with_reducible exact LeO.none _)
   | (with_reducible refine LeO.ite ?_ ?_)
   | (with_reducible refine LeO.bind ?_ (fun _ => ?_))
  ·intro y0 y1 y2 y3 y4 y5 y6 y7 y8 y9 y10 y11 y12 y13 y14 y15 y16 y17 y18 y19 y20 y21 y22 y23 y24 y25 y26 y27 y28 y29 y30 y31 y32
   unfold zone_Join.j2
   repeat' first
   | (with_reducible exact ih0 _ _ _ _ _ _ _ _ _ _ _ _ _ _ _ _ _ _ _ _ _ _ _ _ _)
   | (with_reducible exact ih1 _ _ _ _ _ _ _ _ _ _ _ _ _ _ _ _ _ _ _ _ _ _ _ _ _ _ _ _ _ _ _ _ _)
   | (with_reducible exact ih2 _ _ _ _ _ _ _ _ _ _ _ _ _ _ _ _ _ _ _ _ _ _ _ _ _ _ _ _ _ _ _ _ _)
   | (with_reducible exact LeO.refl _)
   | (with_reducible exact LeO.none _)
   | (with_reducible refine LeO.ite ?_ ?_)
   | (with_reducible refine LeO.bind ?_ (fun _ => ?_))
theorem zone_Join.mono : ∀ a0 a1 a2 a3 a4 a5 a6 a7 a8 a9 a10 a11 a12 a13 a14 a15 k, LeO (zone_Join.f k a0 a1 a2 a3 a4 a5 a6 a7 a8 a9 a10 a11 a12 a13 a14 a15) (zone_Join.f (k + 1) a0 a1 a2 a3 a4 a5 a6 a7 a8 a9 a10 a11 a12 a13 a14 a15) := by
 intro a0 a1 a2 a3 a4 a5 a6 a7 a8 a9 a10 a11 a12 a13 a14 a15 k
 obtain ⟨ih0, ih1, ih2⟩ := zone_Join.mono_l k
 unfold zone_Join.f
 repeat' first
   | (with_reducible exact ih0 _ _ _ _ _ _ _ _ _ _ _ _ _ _ _ _ _ _ _ _ _ _ _ _ _)
   | (with_reducible exact ih1 _ _ _ _ _ _ _ _ _ _ _ _ _ _ _ _ _ _ _ _ _ _ _ _ _ _ _ _ _ _ _ _ _)
   | (with_reducible exact ih2 _ _ _ _ _ _ _ _ _ _ _ _ _ _ _ _ _ _ _ _ _ _ _ _ _ _ _ _ _ _ _ _ _)
   | (with_reducible exact LeO.refl _)
   | (with_reducible exact LeO.none _)
   | (with_reducible refine LeO.ite ?_ ?_)
   | (with_reducible refine LeO.bind ?_ (fun _ => ?_))
set_option maxHeartbeats 8000000 in
set_option maxRecDepth 100000 in
theorem zone_Join.calls (k : Nat) (a0_0 : Bool) (a0_1 : Bool) (a0_2 : Bool) (a0_3 : Int) (a0_4 : ByteArray) (a0_5 : Bool) (a0_6 : Int) (a0_7 : ByteArray) (a1_0 : Bool) (a1_1 : Bool) (a1_2 : Bool) (a1_3 : Int) (a1_4 : ByteArray) (a1_5 : Bool) (a1_6 : Int) (a1_7 : ByteArray) (r1 : Bool) (r2 : Bool) (r3 : Bool) (r4 : Int) (r5 : ByteArray) (r6 : Bool) (r7 : Int) (r8 : ByteArray) (w : World) (h : zone_Join.f k a0_0 a0_1 a0_2 a0_3 a0_4 a0_5 a0_6 a0_7 a1_0 a1_1 a1_2 a1_3 a1_4 a1_5 a1_6 a1_7 = some (r1, r2, r3, r4, r5, r6, r7, r8)) :
  Calls Try.prog 25 #[.agg #[.bool a0_0, .bool a0_1, .bool a0_2, .int .i64 a0_3, .string a0_4, .bool a0_5, .int .i64 a0_6, .string a0_7], .agg #[.bool a1_0, .bool a1_1, .bool a1_2, .int .i64 a1_3, .string a1_4, .bool a1_5, .int .i64 a1_6, .string a1_7]] w fun e w' => e = .returned (.agg #[.bool r1, .bool r2, .bool r3, .int .i64 r4, .string r5, .bool r6, .int .i64 r7, .string r8]) ∧ Below w.heap.size w w' := by
 have hu41 := Try.underlying41
 have hu81 := Try.underlying81
 have hu27 := Try.underlying27
 have HB := Aside0.mk (Below.refl w.heap.size w)
 have H : (zone_Join.l0 k 0 a0_0 a0_1 a0_2 a0_3 a0_4 a0_5 a0_6 a0_7 a1_0 a1_1 a1_2 a1_3 a1_4 a1_5 a1_6 a1_7 false false false 0 (⟨#[]⟩ : ByteArray) false 0 (⟨#[]⟩ : ByteArray)) = some (r1, r2, r3, r4, r5, r6, r7, r8) := h
 clear h
 have H' := Aside0.mk H
 clear H
 go_enter Try.func25, Try.ntmps25
 go_wp2_with (first | ((with_reducible refine gate_dst (N := 2) rfl ?_); refine box_event ?hg (N := 2) ?hd (cs := #[.bool a0_0, .bool a0_1, .bool a0_2, .int .i64 a0_3, .string a0_4, .bool a0_5, .int .i64 a0_6, .string a0_7]) (t := 41) ?hr ?_; (case hd => rfl); (case hg => rfl); (case hr => first | (go_simp; done) | (go_simp; rfl)); intro gb145 hg w3 hbox hb; have n0_ := Aside0.mk (below_step (by with_reducible repeat first | exact HB.out | apply below_alloc | apply pw_below_drewN | apply below_drew1) hb); have n1_ := Aside0.mk (hbox); have n2_ := Aside0.mk ((by rw [hg]; exact (below_size (by with_reducible repeat first | exact HB.out | apply below_alloc | apply pw_below_drewN | apply below_drew1)) : w.heap.size ≤ gb145)); have n3_ := Aside0.mk ((by rw [hg]; exact (below_size (by with_reducible repeat first | exact HB.out | apply below_alloc | apply pw_below_drewN | apply below_drew1)) : w.heap.size ≤ gb145)); clear HB; have HB := n0_; have BK145 := n1_; have GW145 := n2_; have GE145 := n3_; clear n0_ n1_ n2_ n3_; clear hb hbox hg) | ((with_reducible refine gate_dst (N := 3) rfl ?_); refine box_event ?hg (N := 3) ?hd (cs := #[.bool a1_0, .bool a1_1, .bool a1_2, .int .i64 a1_3, .string a1_4, .bool a1_5, .int .i64 a1_6, .string a1_7]) (t := 41) ?hr ?_; (case hd => rfl); (case hg => rfl); (case hr => first | (go_simp; done) | (go_simp; rfl)); intro gb146 hg w4 hbox hb; have n0_ := Aside0.mk (blk_below (g := gb145) (o := .cells #[.bool a0_0, .bool a0_1, .bool a0_2, .int .i64 a0_3, .string a0_4, .bool a0_5, .int .i64 a0_6, .string a0_7] 41 (0, 0)) (by (with_reducible repeat (first | refine blk_drewN ?_ _ | refine blk_drew ?_ | refine blk_alloc ?_ _)); exact BK145.out) hb); have n1_ := Aside0.mk (below_step (by with_reducible repeat first | exact HB.out | apply below_alloc | apply pw_below_drewN | apply below_drew1 | refine below_set ?_ GE145.out) hb); have n2_ := Aside0.mk (hbox); have n3_ := Aside0.mk ((by rw [hg]; exact (below_size (by with_reducible repeat first | exact HB.out | apply below_alloc | apply pw_below_drewN | apply below_drew1 | refine below_set ?_ GE145.out)) : w.heap.size ≤ gb146)); have n4_ := Aside0.mk ((by rw [hg]; exact (below_size (by with_reducible repeat first | exact HB.out | apply below_alloc | apply pw_below_drewN | apply below_drew1 | refine below_set ?_ GE145.out)) : w.heap.size ≤ gb146)); have n5_ := Aside0.mk ((by rw [hg]; exact Nat.ne_of_lt (blk_lt (g := gb145) (o := .cells #[.bool a0_0, .bool a0_1, .bool a0_2, .int .i64 a0_3, .string a0_4, .bool a0_5, .int .i64 a0_6, .string a0_7] 41 (0, 0)) (by (with_reducible repeat (first | refine blk_drewN ?_ _ | refine blk_drew ?_ | refine blk_alloc ?_ _)); exact BK145.out)) : gb145 ≠ gb146)); have n6_ := Aside0.mk ((by rw [hg]; exact Nat.ne_of_gt (blk_lt (g := gb145) (o := .cells #[.bool a0_0, .bool a0_1, .bool a0_2, .int .i64 a0_3, .string a0_4, .bool a0_5, .int .i64 a0_6, .string a0_7] 41 (0, 0)) (by (with_reducible repeat (first | refine blk_drewN ?_ _ | refine blk_drew ?_ | refine blk_alloc ?_ _)); exact BK145.out)) : gb146 ≠ gb145)); clear BK145; clear HB; have BK145 := n0_; have HB := n1_; have BK146 := n2_; have GW146 := n3_; have GE146 := n4_; have NB145_146 := n5_; have NB146_145 := n6_; clear n0_ n1_ n2_ n3_ n4_ n5_ n6_; clear hb hbox hg) | ((with_reducible refine gate_dst (N := 4) rfl ?_); refine box_event ?hg (N := 4) ?hd (cs := #[.bool false, .bool false, .bool false, .int .i64 0, .string (⟨#[]⟩ : ByteArray), .bool false, .int .i64 0, .string (⟨#[]⟩ : ByteArray)]) (t := 41) ?hr ?_; (case hd => rfl); (case hg => rfl); (case hr => first | (go_simp; done) | (go_simp; rfl)); intro gb147 hg w5 hbox hb; have n0_ := Aside0.mk (blk_below (g := gb145) (o := .cells #[.bool a0_0, .bool a0_1, .bool a0_2, .int .i64 a0_3, .string a0_4, .bool a0_5, .int .i64 a0_6, .string a0_7] 41 (0, 0)) (by (with_reducible repeat (first | refine blk_drewN ?_ _ | refine blk_drew ?_ | refine blk_alloc ?_ _)); exact BK145.out) hb); have n1_ := Aside0.mk (blk_below (g := gb146) (o := .cells #[.bool a1_0, .bool a1_1, .bool a1_2, .int .i64 a1_3, .string a1_4, .bool a1_5, .int .i64 a1_6, .string a1_7] 41 (0, 0)) (by (with_reducible repeat (first | refine blk_drewN ?_ _ | refine blk_drew ?_ | refine blk_alloc ?_ _)); exact BK146.out) hb); have n2_ := Aside0.mk (below_step (by with_reducible repeat first | exact HB.out | apply below_alloc | apply pw_below_drewN | apply below_drew1 | refine below_set ?_ GE145.out | refine below_set ?_ GE146.out) hb); have n3_ := Aside0.mk (hbox); have n4_ := Aside0.mk ((by rw [hg]; exact (below_size (by with_reducible repeat first | exact HB.out | apply below_alloc | apply pw_below_drewN | apply below_drew1 | refine below_set ?_ GE145.out | refine below_set ?_ GE146.out)) : w.heap.size ≤ gb147)); have n5_ := Aside0.mk ((by rw [hg]; exact (below_size (by with_reducible repeat first | exact HB.out | apply below_alloc | apply pw_below_drewN | apply below_drew1 | refine below_set ?_ GE145.out | refine below_set ?_ GE146.out)) : w.heap.size ≤ gb147)); have n6_ := Aside0.mk ((by rw [hg]; exact Nat.ne_of_lt (blk_lt (g := gb145) (o := .cells #[.bool a0_0, .bool a0_1, .bool a0_2, .int .i64 a0_3, .string a0_4, .bool a0_5, .int .i64 a0_6, .string a0_7] 41 (0, 0)) (by (with_reducible repeat (first | refine blk_drewN ?_ _ | refine blk_drew ?_ | refine blk_alloc ?_ _)); exact BK145.out)) : gb145 ≠ gb147)); have n7_ := Aside0.mk ((by rw [hg]; exact Nat.ne_of_gt (blk_lt (g := gb145) (o := .cells #[.bool a0_0, .bool a0_1, .bool a0_2, .int .i64 a0_3, .string a0_4, .bool a0_5, .int .i64 a0_6, .string a0_7] 41 (0, 0)) (by (with_reducible repeat (first | refine blk_drewN ?_ _ | refine blk_drew ?_ | refine blk_alloc ?_ _)); exact BK145.out)) : gb147 ≠ gb145)); have n8_ := Aside0.mk ((by rw [hg]; exact Nat.ne_of_lt (blk_lt (g := gb146) (o := .cells #[.bool a1_0, .bool a1_1, .bool a1_2, .int .i64 a1_3, .string a1_4, .bool a1_5, .int .i64 a1_6, .string a1_7] 41 (0, 0)) (by (with_reducible repeat (first | refine blk_drewN ?_ _ | refine blk_drew ?_ | refine blk_alloc ?_ _)); exact BK146.out)) : gb146 ≠ gb147)); have n9_ := Aside0.mk ((by rw [hg]; exact Nat.ne_of_gt (blk_lt (g := gb146) (o := .cells #[.bool a1_0, .bool a1_1, .bool a1_2, .int .i64 a1_3, .string a1_4, .bool a1_5, .int .i64 a1_6, .string a1_7] 41 (0, 0)) (by (with_reducible repeat (first | refine blk_drewN ?_ _ | refine blk_drew ?_ | refine blk_alloc ?_ _)); exact BK146.out)) : gb147 ≠ gb146)); clear BK145; clear BK146; clear HB; have BK145 := n0_; have BK146 := n1_; have HB := n2_; have BK147 := n3_; have GW147 := n4_; have GE147 := n5_; have NB145_147 := n6_; have NB147_145 := n7_; have NB146_147 := n8_; have NB147_146 := n9_; clear n0_ n1_ n2_ n3_ n4_ n5_ n6_ n7_ n8_ n9_; clear hb hbox hg) | ((with_reducible refine gate_dst (N := 5) rfl ?_); refine box_event ?hg (N := 5) ?hd (cs := #[.bool false, .bool false, .bool false, .int .i64 0, .string (⟨#[]⟩ : ByteArray), .bool false, .int .i64 0, .string (⟨#[]⟩ : ByteArray)]) (t := 41) ?hr ?_; (case hd => rfl); (case hg => rfl); (case hr => first | (go_simp; done) | (go_simp; rfl)); intro gb148 hg w6 hbox hb; have n0_ := Aside0.mk (blk_below (g := gb145) (o := .cells #[.bool a0_0, .bool a0_1, .bool a0_2, .int .i64 a0_3, .string a0_4, .bool a0_5, .int .i64 a0_6, .string a0_7] 41 (0, 0)) (by (with_reducible repeat (first | refine blk_drewN ?_ _ | refine blk_drew ?_ | refine blk_alloc ?_ _)); exact BK145.out) hb); have n1_ := Aside0.mk (blk_below (g := gb146) (o := .cells #[.bool a1_0, .bool a1_1, .bool a1_2, .int .i64 a1_3, .string a1_4, .bool a1_5, .int .i64 a1_6, .string a1_7] 41 (0, 0)) (by (with_reducible repeat (first | refine blk_drewN ?_ _ | refine blk_drew ?_ | refine blk_alloc ?_ _)); exact BK146.out) hb); have n2_ := Aside0.mk (blk_below (g := gb147) (o := .cells #[.bool false, .bool false, .bool false, .int .i64 0, .string (⟨#[]⟩ : ByteArray), .bool false, .int .i64 0, .string (⟨#[]⟩ : ByteArray)] 41 (0, 0)) (by (with_reducible repeat (first | refine blk_drewN ?_ _ | refine blk_drew ?_ | refine blk_alloc ?_ _)); exact BK147.out) hb); have n3_ := Aside0.mk (below_step (by with_reducible repeat first | exact HB.out | apply below_alloc | apply pw_below_drewN | apply below_drew1 | refine below_set ?_ GE145.out | refine below_set ?_ GE146.out | refine below_set ?_ GE147.out) hb); have n4_ := Aside0.mk (hbox); have n5_ := Aside0.mk ((by rw [hg]; exact (below_size (by with_reducible repeat first | exact HB.out | apply below_alloc | apply pw_below_drewN | apply below_drew1 | refine below_set ?_ GE145.out | refine below_set ?_ GE146.out | refine below_set ?_ GE147.out)) : w.heap.size ≤ gb148)); have n6_ := Aside0.mk ((by rw [hg]; exact (below_size (by with_reducible repeat first | exact HB.out | apply below_alloc | apply pw_below_drewN | apply below_drew1 | refine below_set ?_ GE145.out | refine below_set ?_ GE146.out | refine below_set ?_ GE147.out)) : w.heap.size ≤ gb148)); have n7_ := Aside0.mk ((by rw [hg]; exact Nat.ne_of_lt (blk_lt (g := gb145) (o := .cells #[.bool a0_0, .bool a0_1, .bool a0_2, .int .i64 a0_3, .string a0_4, .bool a0_5, .int .i64 a0_6, .string a0_7] 41 (0, 0)) (by (with_reducible repeat (first | refine blk_drewN ?_ _ | refine blk_drew ?_ | refine blk_alloc ?_ _)); exact BK145.out)) : gb145 ≠ gb148)); have n8_ := Aside0.mk ((by rw [hg]; exact Nat.ne_of_gt (blk_lt (g := gb145) (o := .cells #[.bool a0_0, .bool a0_1, .bool a0_2, .int .i64 a0_3, .string a0_4, .bool a0_5, .int .i64 a0_6, .string a0_7] 41 (0, 0)) (by (with_reducible repeat (first | refine blk_drewN ?_ _ | refine blk_drew ?_ | refine blk_alloc ?_ _)); exact BK145.out)) : gb148 ≠ gb145)); have n9_ := Aside0.mk ((by rw [hg]; exact Nat.ne_of_lt (blk_lt (g := gb146) (o := .cells #[.bool a1_0, .bool a1_1, .bool a1_2, .int .i64 a1_3, .string a1_4, .bool a1_5, .int .i64 a1_6, .string a1_7] 41 (0, 0)) (by (with_reducible repeat (first | refine blk_drewN ?_ _ | refine blk_drew ?_ | refine blk_alloc ?_ _)); exact BK146.out)) : gb146 ≠ gb148)); have n10_ := Aside0.mk ((by rw [hg]; exact Nat.ne_of_gt (blk_lt (g := gb146) (o := .cells #[.bool a1_0, .bool a1_1, .bool a1_2, .int .i64 a1_3, .string a1_4, .bool a1_5, .int .i64 a1_6, .string a1_7] 41 (0, 0)) (by (with_reducible repeat (first | refine blk_drewN ?_ _ | refine blk_drew ?_ | refine blk_alloc ?_ _)); exact BK146.out)) : gb148 ≠ gb146)); have n11_ := Aside0.mk ((by rw [hg]; exact Nat.ne_of_lt (blk_lt (g := gb147) (o := .cells #[.bool false, .bool false, .bool false, .int .i64 0, .string (⟨#[]⟩ : ByteArray), .bool false, .int .i64 0, .string (⟨#[]⟩ : ByteArray)] 41 (0, 0)) (by (with_reducible repeat (first | refine blk_drewN ?_ _ | refine blk_drew ?_ | refine blk_alloc ?_ _)); exact BK147.out)) : gb147 ≠ gb148)); have n12_ := Aside0.mk ((by rw [hg]; exact Nat.ne_of_gt (blk_lt (g := gb147) (o := .cells #[.bool false, .bool false, .bool false, .int .i64 0, .string (⟨#[]⟩ : ByteArray), .bool false, .int .i64 0, .string (⟨#[]⟩ : ByteArray)] 41 (0, 0)) (by (with_reducible repeat (first | refine blk_drewN ?_ _ | refine blk_drew ?_ | refine blk_alloc ?_ _)); exact BK147.out)) : gb148 ≠ gb147)); clear BK145; clear BK146; clear BK147; clear HB; have BK145 := n0_; have BK146 := n1_; have BK147 := n2_; have HB := n3_; have BK148 := n4_; have GW148 := n5_; have GE148 := n6_; have NB145_148 := n7_; have NB148_145 := n8_; have NB146_148 := n9_; have NB148_146 := n10_; have NB147_148 := n11_; have NB148_147 := n12_; clear n0_ n1_ n2_ n3_ n4_ n5_ n6_ n7_ n8_ n9_ n10_ n11_ n12_; clear hb hbox hg; have hnb7 := NB148_145.out; have hnc7 := NB145_148.out; have hnb8 := NB148_146.out; have hnc8 := NB146_148.out; have hnb9 := NB148_147.out; have hnc9 := NB147_148.out; obtain ⟨hcz10_0, hcz10_1, hcz10_2, hcz10_3, hcz10_4, hcz10_5, hcz10_6, hcz10_7⟩ := bc8 BK148.out; obtain ⟨hfz10_0, hfz10_1, hfz10_2, hfz10_3, hfz10_4, hfz10_5, hfz10_6, hfz10_7⟩ := bf8 BK148.out; have hnb11 := NB145_146.out; have hnc11 := NB146_145.out; have hnb12 := NB145_147.out; have hnc12 := NB147_145.out; obtain ⟨hcz13_0, hcz13_1, hcz13_2, hcz13_3, hcz13_4, hcz13_5, hcz13_6, hcz13_7⟩ := bc8 BK145.out; obtain ⟨hfz13_0, hfz13_1, hfz13_2, hfz13_3, hfz13_4, hfz13_5, hfz13_6, hfz13_7⟩ := bf8 BK145.out; have hnb14 := NB146_147.out; have hnc14 := NB147_146.out; obtain ⟨hcz15_0, hcz15_1, hcz15_2, hcz15_3, hcz15_4, hcz15_5, hcz15_6, hcz15_7⟩ := bc8 BK146.out; obtain ⟨hfz15_0, hfz15_1, hfz15_2, hfz15_3, hfz15_4, hfz15_5, hfz15_6, hfz15_7⟩ := bf8 BK146.out))
 go_loopg [12] k (fun kq v12 w' => ∃ (x12_1 : Int) (x149000_1 : Bool) (x149001_1 : Bool) (x149002_1 : Bool) (x149003_1 : Int) (x149004_1 : ByteArray) (x149005_1 : Bool) (x149006_1 : Int) (x149007_1 : ByteArray), v12 = .int .i64 x12_1 ∧ Aside0 (zone_Join.l0 kq x12_1 a0_0 a0_1 a0_2 a0_3 a0_4 a0_5 a0_6 a0_7 a1_0 a1_1 a1_2 a1_3 a1_4 a1_5 a1_6 a1_7 x149000_1 x149001_1 x149002_1 x149003_1 x149004_1 x149005_1 x149006_1 x149007_1 = some (r1, r2, r3, r4, r5, r6, r7, r8)) ∧ Aside0 (kq ≤ k) ∧ Aside0 (w'.heap[gb145]? = some (.cells #[.bool a0_0, .bool a0_1, .bool a0_2, .int .i64 a0_3, .string a0_4, .bool a0_5, .int .i64 a0_6, .string a0_7] 41 (0, 0))) ∧ Aside0 (w'.heap[gb146]? = some (.cells #[.bool a1_0, .bool a1_1, .bool a1_2, .int .i64 a1_3, .string a1_4, .bool a1_5, .int .i64 a1_6, .string a1_7] 41 (0, 0))) ∧ Aside0 (w'.heap[gb147]? = some (.cells #[.bool false, .bool false, .bool false, .int .i64 0, .string (⟨#[]⟩ : ByteArray), .bool false, .int .i64 0, .string (⟨#[]⟩ : ByteArray)] 41 (0, 0))) ∧ Aside0 (w'.heap[gb148]? = some (.cells #[.bool x149000_1, .bool x149001_1, .bool x149002_1, .int .i64 x149003_1, .string x149004_1, .bool x149005_1, .int .i64 x149006_1, .string x149007_1] 41 (0, 0))) ∧ Aside0 (Below w.heap.size w w'))
 case atStart => exact ⟨(0), (false), (false), (false), (0), ((⟨#[]⟩ : ByteArray)), (false), (0), ((⟨#[]⟩ : ByteArray)), (by first | rfl | (simp; done) | (simp [*]; done)), H', ⟨Nat.le_refl _⟩, ⟨by (iterate 8 (refine blk_far ?_ NB145_148.out _)); (with_reducible repeat (first | refine blk_drewN ?_ _ | refine blk_drew ?_ | refine blk_alloc ?_ _)); exact BK145.out⟩, ⟨by (iterate 8 (refine blk_far ?_ NB146_148.out _)); (with_reducible repeat (first | refine blk_drewN ?_ _ | refine blk_drew ?_ | refine blk_alloc ?_ _)); exact BK146.out⟩, ⟨by (iterate 8 (refine blk_far ?_ NB147_148.out _)); (with_reducible repeat (first | refine blk_drewN ?_ _ | refine blk_drew ?_ | refine blk_alloc ?_ _)); exact BK147.out⟩, ⟨by refine blk_put (cs := #[.bool false, .bool false, .bool false, .int .i64 0, .string (⟨#[]⟩ : ByteArray), .bool false, .int .i64 0, .string (⟨#[]⟩ : ByteArray)]) ?_ 7 _ rfl; refine blk_put (cs := #[.bool false, .bool false, .bool false, .int .i64 0, .string (⟨#[]⟩ : ByteArray), .bool false, .int .i64 0, .string (⟨#[]⟩ : ByteArray)]) ?_ 6 _ rfl; refine blk_put (cs := #[.bool false, .bool false, .bool false, .int .i64 0, .string (⟨#[]⟩ : ByteArray), .bool false, .int .i64 0, .string (⟨#[]⟩ : ByteArray)]) ?_ 5 _ rfl; refine blk_put (cs := #[.bool false, .bool false, .bool false, .int .i64 0, .string (⟨#[]⟩ : ByteArray), .bool false, .int .i64 0, .string (⟨#[]⟩ : ByteArray)]) ?_ 4 _ rfl; refine blk_put (cs := #[.bool false, .bool false, .bool false, .int .i64 0, .string (⟨#[]⟩ : ByteArray), .bool false, .int .i64 0, .string (⟨#[]⟩ : ByteArray)]) ?_ 3 _ rfl; refine blk_put (cs := #[.bool false, .bool false, .bool false, .int .i64 0, .string (⟨#[]⟩ : ByteArray), .bool false, .int .i64 0, .string (⟨#[]⟩ : ByteArray)]) ?_ 2 _ rfl; refine blk_put (cs := #[.bool false, .bool false, .bool false, .int .i64 0, .string (⟨#[]⟩ : ByteArray), .bool false, .int .i64 0, .string (⟨#[]⟩ : ByteArray)]) ?_ 1 _ rfl; refine blk_put (cs := #[.bool false, .bool false, .bool false, .int .i64 0, .string (⟨#[]⟩ : ByteArray), .bool false, .int .i64 0, .string (⟨#[]⟩ : ByteArray)]) ?_ 0 _ rfl; (with_reducible repeat (first | refine blk_drewN ?_ _ | refine blk_drew ?_ | refine blk_alloc ?_ _)); exact BK148.out⟩, ⟨by repeat (first | (with_reducible first | exact HB.out | apply below_alloc | apply pw_below_drewN | apply below_drew1 | refine below_set ?_ GE145.out | refine below_set ?_ GE146.out | refine below_set ?_ GE147.out | refine below_set ?_ GE148.out) | exact HB.out)⟩⟩
 case round =>
  clear H'
  try clear c1
  try clear c2
  try clear p2
  try clear c7
  try clear c8
  try clear c9
  try clear c11
  try clear c12
  try clear c14
  try clear hcz10_0 hcz10_1 hcz10_2 hcz10_3 hcz10_4 hcz10_5 hcz10_6 hcz10_7
  try clear hcz13_0 hcz13_1 hcz13_2 hcz13_3 hcz13_4 hcz13_5 hcz13_6 hcz13_7
  try clear hcz15_0 hcz15_1 hcz15_2 hcz15_3 hcz15_4 hcz15_5 hcz15_6 hcz15_7
  try clear hfz10_0 hfz10_1 hfz10_2 hfz10_3 hfz10_4 hfz10_5 hfz10_6 hfz10_7
  try clear hfz13_0 hfz13_1 hfz13_2 hfz13_3 hfz13_4 hfz13_5 hfz13_6 hfz13_7
  try clear hfz15_0 hfz15_1 hfz15_2 hfz15_3 hfz15_4 hfz15_5 hfz15_6 hfz15_7
  obtain ⟨x12_1, x149000_1, x149001_1, x149002_1, x149003_1, x149004_1, x149005_1, x149006_1, x149007_1, rfl, HA, HK1, BK145, BK146, BK147, BK148, HB⟩ := hrel
  cases gk with
  | zero => exact absurd HA.out (by simp [zone_Join.l0])
  | succ k1 =>
   have H := HA.out
   clear HA
   simp only [zone_Join.l0] at H
   by_cases c16 : x12_1 < 2
   ·rw [if_pos c16] at H
    have c16b0 : decide (x12_1 < 2) = true := decide_eq_true c16
    clear c16
    by_cases c17 : 0 ≤ x12_1
    ·rw [if_pos c17] at H
     have c17b0 : decide (0 ≤ x12_1) = true := decide_eq_true c17
     clear c17
     have HC19 := Aside0.mk H
     clear H
     have p18 : 0 ≤ (x12_1 : Int) := of_decide_eq_true (by with_reducible assumption)
     have q18 : x12_1 < (2 : Int) := of_decide_eq_true (by with_reducible assumption)
     have hx18 : ∀ w : World, (Instr.index 81 (.agg #[.bool a0_0, .bool a0_1, .bool a0_2, .int .i64 a0_3, .string a0_4, .bool a0_5, .int .i64 a0_6, .string a0_7, .bool a1_0, .bool a1_1, .bool a1_2, .int .i64 a1_3, .string a1_4, .bool a1_5, .int .i64 a1_6, .string a1_7]) (.int .i64 x12_1)).run Try.prog w = .ok (.agg #[.bool (pick2 x12_1 a0_0 a1_0), .bool (pick2 x12_1 a0_1 a1_1), .bool (pick2 x12_1 a0_2 a1_2), .int .i64 (pick2 x12_1 a0_3 a1_3), .string (pick2 x12_1 a0_4 a1_4), .bool (pick2 x12_1 a0_5 a1_5), .int .i64 (pick2 x12_1 a0_6 a1_6), .string (pick2 x12_1 a0_7 a1_7)]) w := fun w => by rcases (show x12_1 = 0 ∨ x12_1 = 1 by omega) with h_ | h_ <;> rw [h_] <;> kernel_rfl
     clear p18 q18
     go_upto_region 5 with (first | ((with_reducible refine gate_dst (N := 7) rfl ?_); refine box_event ?hg (N := 7) ?hd (cs := #[.bool false, .bool false, .bool false, .int .i64 0, .string (⟨#[]⟩ : ByteArray), .bool false, .int .i64 0, .string (⟨#[]⟩ : ByteArray)]) (t := 41) ?hr ?_; (case hd => rfl); (case hg => rfl); (case hr => first | (go_simp; done) | (go_simp; rfl)); intro gb149 hg w20 hbox hb; have n0_ := Aside0.mk (blk_below (g := gb145) (o := .cells #[.bool a0_0, .bool a0_1, .bool a0_2, .int .i64 a0_3, .string a0_4, .bool a0_5, .int .i64 a0_6, .string a0_7] 41 (0, 0)) (by (with_reducible repeat (first | refine blk_drewN ?_ _ | refine blk_drew ?_ | refine blk_alloc ?_ _)); exact BK145.out) hb); have n1_ := Aside0.mk (blk_below (g := gb146) (o := .cells #[.bool a1_0, .bool a1_1, .bool a1_2, .int .i64 a1_3, .string a1_4, .bool a1_5, .int .i64 a1_6, .string a1_7] 41 (0, 0)) (by (with_reducible repeat (first | refine blk_drewN ?_ _ | refine blk_drew ?_ | refine blk_alloc ?_ _)); exact BK146.out) hb); have n2_ := Aside0.mk (blk_below (g := gb147) (o := .cells #[.bool false, .bool false, .bool false, .int .i64 0, .string (⟨#[]⟩ : ByteArray), .bool false, .int .i64 0, .string (⟨#[]⟩ : ByteArray)] 41 (0, 0)) (by (with_reducible repeat (first | refine blk_drewN ?_ _ | refine blk_drew ?_ | refine blk_alloc ?_ _)); exact BK147.out) hb); have n3_ := Aside0.mk (blk_below (g := gb148) (o := .cells #[.bool x149000_1, .bool x149001_1, .bool x149002_1, .int .i64 x149003_1, .string x149004_1, .bool x149005_1, .int .i64 x149006_1, .string x149007_1] 41 (0, 0)) (by (with_reducible repeat (first | refine blk_drewN ?_ _ | refine blk_drew ?_ | refine blk_alloc ?_ _)); exact BK148.out) hb); have n4_ := Aside0.mk (below_step (by with_reducible repeat first | exact HB.out | apply below_alloc | apply pw_below_drewN | apply below_drew1 | refine below_set ?_ GE145.out | refine below_set ?_ GE146.out | refine below_set ?_ GE147.out | refine below_set ?_ GE148.out) hb); have n5_ := Aside0.mk (hbox); have n6_ := Aside0.mk ((by rw [hg]; exact (below_size (by with_reducible repeat first | exact HB.out | apply below_alloc | apply pw_below_drewN | apply below_drew1 | refine below_set ?_ GE145.out | refine below_set ?_ GE146.out | refine below_set ?_ GE147.out | refine below_set ?_ GE148.out)) : w.heap.size ≤ gb149)); have n7_ := Aside0.mk ((by rw [hg]; exact (below_size (by with_reducible repeat first | exact HB.out | apply below_alloc | apply pw_below_drewN | apply below_drew1 | refine below_set ?_ GE145.out | refine below_set ?_ GE146.out | refine below_set ?_ GE147.out | refine below_set ?_ GE148.out)) : w.heap.size ≤ gb149)); have n8_ := Aside0.mk ((by rw [hg]; exact Nat.ne_of_lt (blk_lt (g := gb145) (o := .cells #[.bool a0_0, .bool a0_1, .bool a0_2, .int .i64 a0_3, .string a0_4, .bool a0_5, .int .i64 a0_6, .string a0_7] 41 (0, 0)) (by (with_reducible repeat (first | refine blk_drewN ?_ _ | refine blk_drew ?_ | refine blk_alloc ?_ _)); exact BK145.out)) : gb145 ≠ gb149)); have n9_ := Aside0.mk ((by rw [hg]; exact Nat.ne_of_gt (blk_lt (g := gb145) (o := .cells #[.bool a0_0, .bool a0_1, .bool a0_2, .int .i64 a0_3, .string a0_4, .bool a0_5, .int .i64 a0_6, .string a0_7] 41 (0, 0)) (by (with_reducible repeat (first | refine blk_drewN ?_ _ | refine blk_drew ?_ | refine blk_alloc ?_ _)); exact BK145.out)) : gb149 ≠ gb145)); have n10_ := Aside0.mk ((by rw [hg]; exact Nat.ne_of_lt (blk_lt (g := gb146) (o := .cells #[.bool a1_0, .bool a1_1, .bool a1_2, .int .i64 a1_3, .string a1_4, .bool a1_5, .int .i64 a1_6, .string a1_7] 41 (0, 0)) (by (with_reducible repeat (first | refine blk_drewN ?_ _ | refine blk_drew ?_ | refine blk_alloc ?_ _)); exact BK146.out)) : gb146 ≠ gb149)); have n11_ := Aside0.mk ((by rw [hg]; exact Nat.ne_of_gt (blk_lt (g := gb146) (o := .cells #[.bool a1_0, .bool a1_1, .bool a1_2, .int .i64 a1_3, .string a1_4, .bool a1_5, .int .i64 a1_6, .string a1_7] 41 (0, 0)) (by (with_reducible repeat (first | refine blk_drewN ?_ _ | refine blk_drew ?_ | refine blk_alloc ?_ _)); exact BK146.out)) : gb149 ≠ gb146)); have n12_ := Aside0.mk ((by rw [hg]; exact Nat.ne_of_lt (blk_lt (g := gb147) (o := .cells #[.bool false, .bool false, .bool false, .int .i64 0, .string (⟨#[]⟩ : ByteArray), .bool false, .int .i64 0, .string (⟨#[]⟩ : ByteArray)] 41 (0, 0)) (by (with_reducible repeat (first | refine blk_drewN ?_ _ | refine blk_drew ?_ | refine blk_alloc ?_ _)); exact BK147.out)) : gb147 ≠ gb149)); have n13_ := Aside0.mk ((by rw [hg]; exact Nat.ne_of_gt (blk_lt (g := gb147) (o := .cells #[.bool false, .bool false, .bool false, .int .i64 0, .string (⟨#[]⟩ : ByteArray), .bool false, .int .i64 0, .string (⟨#[]⟩ : ByteArray)] 41 (0, 0)) (by (with_reducible repeat (first | refine blk_drewN ?_ _ | refine blk_drew ?_ | refine blk_alloc ?_ _)); exact BK147.out)) : gb149 ≠ gb147)); have n14_ := Aside0.mk ((by rw [hg]; exact Nat.ne_of_lt (blk_lt (g := gb148) (o := .cells #[.bool x149000_1, .bool x149001_1, .bool x149002_1, .int .i64 x149003_1, .string x149004_1, .bool x149005_1, .int .i64 x149006_1, .string x149007_1] 41 (0, 0)) (by (with_reducible repeat (first | refine blk_drewN ?_ _ | refine blk_drew ?_ | refine blk_alloc ?_ _)); exact BK148.out)) : gb148 ≠ gb149)); have n15_ := Aside0.mk ((by rw [hg]; exact Nat.ne_of_gt (blk_lt (g := gb148) (o := .cells #[.bool x149000_1, .bool x149001_1, .bool x149002_1, .int .i64 x149003_1, .string x149004_1, .bool x149005_1, .int .i64 x149006_1, .string x149007_1] 41 (0, 0)) (by (with_reducible repeat (first | refine blk_drewN ?_ _ | refine blk_drew ?_ | refine blk_alloc ?_ _)); exact BK148.out)) : gb149 ≠ gb148)); clear BK145; clear BK146; clear BK147; clear BK148; clear HB; have BK145 := n0_; have BK146 := n1_; have BK147 := n2_; have BK148 := n3_; have HB := n4_; have BK149 := n5_; have GW149 := n6_; have GE149 := n7_; have NB145_149 := n8_; have NB149_145 := n9_; have NB146_149 := n10_; have NB149_146 := n11_; have NB147_149 := n12_; have NB149_147 := n13_; have NB148_149 := n14_; have NB149_148 := n15_; clear n0_ n1_ n2_ n3_ n4_ n5_ n6_ n7_ n8_ n9_ n10_ n11_ n12_ n13_ n14_ n15_; clear hb hbox hg; have hnb21 := NB149_145.out; have hnc21 := NB145_149.out; have hnb22 := NB149_146.out; have hnc22 := NB146_149.out; have hnb23 := NB149_147.out; have hnc23 := NB147_149.out; have hnb24 := NB149_148.out; have hnc24 := NB148_149.out; obtain ⟨hcz25_0, hcz25_1, hcz25_2, hcz25_3, hcz25_4, hcz25_5, hcz25_6, hcz25_7⟩ := bc8 BK149.out; obtain ⟨hfz25_0, hfz25_1, hfz25_2, hfz25_3, hfz25_4, hfz25_5, hfz25_6, hfz25_7⟩ := bf8 BK149.out))
     (try simp only [Act.put, List.setIfInBounds_toArray, List.set_cons_zero, List.set_cons_succ])
     go_cut [] (fun wc => ∃ (kq : Nat) (x149000_18 : Bool), Aside0 (zone_Join.j1 kq x12_1 a0_0 a0_1 a0_2 a0_3 a0_4 a0_5 a0_6 a0_7 a1_0 a1_1 a1_2 a1_3 a1_4 a1_5 a1_6 a1_7 x149000_18 x149001_1 x149002_1 x149003_1 x149004_1 x149005_1 x149006_1 x149007_1 (pick2 x12_1 a0_0 a1_0) (pick2 x12_1 a0_1 a1_1) (pick2 x12_1 a0_2 a1_2) (pick2 x12_1 a0_3 a1_3) (pick2 x12_1 a0_4 a1_4) (pick2 x12_1 a0_5 a1_5) (pick2 x12_1 a0_6 a1_6) (pick2 x12_1 a0_7 a1_7) = some (r1, r2, r3, r4, r5, r6, r7, r8)) ∧ Aside0 (kq ≤ k1) ∧ Aside0 (wc.heap[gb145]? = some (.cells #[.bool a0_0, .bool a0_1, .bool a0_2, .int .i64 a0_3, .string a0_4, .bool a0_5, .int .i64 a0_6, .string a0_7] 41 (0, 0))) ∧ Aside0 (wc.heap[gb146]? = some (.cells #[.bool a1_0, .bool a1_1, .bool a1_2, .int .i64 a1_3, .string a1_4, .bool a1_5, .int .i64 a1_6, .string a1_7] 41 (0, 0))) ∧ Aside0 (wc.heap[gb147]? = some (.cells #[.bool false, .bool false, .bool false, .int .i64 0, .string (⟨#[]⟩ : ByteArray), .bool false, .int .i64 0, .string (⟨#[]⟩ : ByteArray)] 41 (0, 0))) ∧ Aside0 (wc.heap[gb148]? = some (.cells #[.bool x149000_18, .bool x149001_1, .bool x149002_1, .int .i64 x149003_1, .string x149004_1, .bool x149005_1, .int .i64 x149006_1, .string x149007_1] 41 (0, 0))) ∧ Aside0 (wc.heap[gb149]? = some (.cells #[.bool (pick2 x12_1 a0_0 a1_0), .bool (pick2 x12_1 a0_1 a1_1), .bool (pick2 x12_1 a0_2 a1_2), .int .i64 (pick2 x12_1 a0_3 a1_3), .string (pick2 x12_1 a0_4 a1_4), .bool (pick2 x12_1 a0_5 a1_5), .int .i64 (pick2 x12_1 a0_6 a1_6), .string (pick2 x12_1 a0_7 a1_7)] 41 (0, 0))) ∧ Aside0 (Below w.heap.size w wc))
     case first =>
      have H := HC19.out
      clear HC19
      by_cases c26 : x149000_1 = true
      ·subst c26
       have H1 : (zone_Join.j1 k1 x12_1 a0_0 a0_1 a0_2 a0_3 a0_4 a0_5 a0_6 a0_7 a1_0 a1_1 a1_2 a1_3 a1_4 a1_5 a1_6 a1_7 true x149001_1 x149002_1 x149003_1 x149004_1 x149005_1 x149006_1 x149007_1 (pick2 x12_1 a0_0 a1_0) (pick2 x12_1 a0_1 a1_1) (pick2 x12_1 a0_2 a1_2) (pick2 x12_1 a0_3 a1_3) (pick2 x12_1 a0_4 a1_4) (pick2 x12_1 a0_5 a1_5) (pick2 x12_1 a0_6 a1_6) (pick2 x12_1 a0_7 a1_7)) = some (r1, r2, r3, r4, r5, r6, r7, r8) := by rw [if_pos rfl] at H; exact H
       clear H
       have H := H1
       clear H1
       have H' := Aside0.mk H
       clear H
       have hnb27 := NB148_145.out
       have hnc27 := NB145_148.out
       have hnb28 := NB148_146.out
       have hnc28 := NB146_148.out
       have hnb29 := NB148_147.out
       have hnc29 := NB147_148.out
       have hnb30 := NB148_149.out
       have hnc30 := NB149_148.out
       obtain ⟨hcz31_0, hcz31_1, hcz31_2, hcz31_3, hcz31_4, hcz31_5, hcz31_6, hcz31_7⟩ := bc8 BK148.out
       obtain ⟨hfz31_0, hfz31_1, hfz31_2, hfz31_3, hfz31_4, hfz31_5, hfz31_6, hfz31_7⟩ := bf8 BK148.out
       go_wp2
       go_meet
       case rel => exact ⟨_, (true), H', ⟨by have := HK1.out; first | omega | exact Nat.le_refl _⟩, ⟨by refine blk_far ?_ NB145_148.out _; (iterate 8 (refine blk_far ?_ NB145_149.out _)); (with_reducible repeat (first | refine blk_drewN ?_ _ | refine blk_drew ?_ | refine blk_alloc ?_ _)); exact BK145.out⟩, ⟨by refine blk_far ?_ NB146_148.out _; (iterate 8 (refine blk_far ?_ NB146_149.out _)); (with_reducible repeat (first | refine blk_drewN ?_ _ | refine blk_drew ?_ | refine blk_alloc ?_ _)); exact BK146.out⟩, ⟨by refine blk_far ?_ NB147_148.out _; (iterate 8 (refine blk_far ?_ NB147_149.out _)); (with_reducible repeat (first | refine blk_drewN ?_ _ | refine blk_drew ?_ | refine blk_alloc ?_ _)); exact BK147.out⟩, ⟨by refine blk_put (cs := #[.bool true, .bool x149001_1, .bool x149002_1, .int .i64 x149003_1, .string x149004_1, .bool x149005_1, .int .i64 x149006_1, .string x149007_1]) ?_ 0 _ rfl; (iterate 8 (refine blk_far ?_ NB148_149.out _)); (with_reducible repeat (first | refine blk_drewN ?_ _ | refine blk_drew ?_ | refine blk_alloc ?_ _)); exact BK148.out⟩, ⟨by refine blk_far ?_ NB149_148.out _; refine blk_put (cs := #[.bool (pick2 x12_1 a0_0 a1_0), .bool (pick2 x12_1 a0_1 a1_1), .bool (pick2 x12_1 a0_2 a1_2), .int .i64 (pick2 x12_1 a0_3 a1_3), .string (pick2 x12_1 a0_4 a1_4), .bool (pick2 x12_1 a0_5 a1_5), .int .i64 (pick2 x12_1 a0_6 a1_6), .string (⟨#[]⟩ : ByteArray)]) ?_ 7 _ rfl; refine blk_put (cs := #[.bool (pick2 x12_1 a0_0 a1_0), .bool (pick2 x12_1 a0_1 a1_1), .bool (pick2 x12_1 a0_2 a1_2), .int .i64 (pick2 x12_1 a0_3 a1_3), .string (pick2 x12_1 a0_4 a1_4), .bool (pick2 x12_1 a0_5 a1_5), .int .i64 0, .string (⟨#[]⟩ : ByteArray)]) ?_ 6 _ rfl; refine blk_put (cs := #[.bool (pick2 x12_1 a0_0 a1_0), .bool (pick2 x12_1 a0_1 a1_1), .bool (pick2 x12_1 a0_2 a1_2), .int .i64 (pick2 x12_1 a0_3 a1_3), .string (pick2 x12_1 a0_4 a1_4), .bool false, .int .i64 0, .string (⟨#[]⟩ : ByteArray)]) ?_ 5 _ rfl; refine blk_put (cs := #[.bool (pick2 x12_1 a0_0 a1_0), .bool (pick2 x12_1 a0_1 a1_1), .bool (pick2 x12_1 a0_2 a1_2), .int .i64 (pick2 x12_1 a0_3 a1_3), .string (⟨#[]⟩ : ByteArray), .bool false, .int .i64 0, .string (⟨#[]⟩ : ByteArray)]) ?_ 4 _ rfl; refine blk_put (cs := #[.bool (pick2 x12_1 a0_0 a1_0), .bool (pick2 x12_1 a0_1 a1_1), .bool (pick2 x12_1 a0_2 a1_2), .int .i64 0, .string (⟨#[]⟩ : ByteArray), .bool false, .int .i64 0, .string (⟨#[]⟩ : ByteArray)]) ?_ 3 _ rfl; refine blk_put (cs := #[.bool (pick2 x12_1 a0_0 a1_0), .bool (pick2 x12_1 a0_1 a1_1), .bool false, .int .i64 0, .string (⟨#[]⟩ : ByteArray), .bool false, .int .i64 0, .string (⟨#[]⟩ : ByteArray)]) ?_ 2 _ rfl; refine blk_put (cs := #[.bool (pick2 x12_1 a0_0 a1_0), .bool false, .bool false, .int .i64 0, .string (⟨#[]⟩ : ByteArray), .bool false, .int .i64 0, .string (⟨#[]⟩ : ByteArray)]) ?_ 1 _ rfl; refine blk_put (cs := #[.bool false, .bool false, .bool false, .int .i64 0, .string (⟨#[]⟩ : ByteArray), .bool false, .int .i64 0, .string (⟨#[]⟩ : ByteArray)]) ?_ 0 _ rfl; (with_reducible repeat (first | refine blk_drewN ?_ _ | refine blk_drew ?_ | refine blk_alloc ?_ _)); exact BK149.out⟩, ⟨by repeat (first | (with_reducible first | exact HB.out | apply below_alloc | apply pw_below_drewN | apply below_drew1 | refine below_set ?_ GE145.out | refine below_set ?_ GE146.out | refine below_set ?_ GE147.out | refine below_set ?_ GE148.out | refine below_set ?_ GE149.out) | exact HB.out)⟩⟩
      ·replace c26 := Bool.eq_false_iff.mpr c26
       subst c26
       have H1 : (zone_Join.j1 k1 x12_1 a0_0 a0_1 a0_2 a0_3 a0_4 a0_5 a0_6 a0_7 a1_0 a1_1 a1_2 a1_3 a1_4 a1_5 a1_6 a1_7 (pick2 x12_1 a0_0 a1_0) x149001_1 x149002_1 x149003_1 x149004_1 x149005_1 x149006_1 x149007_1 (pick2 x12_1 a0_0 a1_0) (pick2 x12_1 a0_1 a1_1) (pick2 x12_1 a0_2 a1_2) (pick2 x12_1 a0_3 a1_3) (pick2 x12_1 a0_4 a1_4) (pick2 x12_1 a0_5 a1_5) (pick2 x12_1 a0_6 a1_6) (pick2 x12_1 a0_7 a1_7)) = some (r1, r2, r3, r4, r5, r6, r7, r8) := by rw [if_neg (show ¬ (false = true) by decide)] at H; exact H
       clear H
       have H := H1
       clear H1
       have H' := Aside0.mk H
       clear H
       have hnb32 := NB148_145.out
       have hnc32 := NB145_148.out
       have hnb33 := NB148_146.out
       have hnc33 := NB146_148.out
       have hnb34 := NB148_147.out
       have hnc34 := NB147_148.out
       have hnb35 := NB148_149.out
       have hnc35 := NB149_148.out
       obtain ⟨hcz36_0, hcz36_1, hcz36_2, hcz36_3, hcz36_4, hcz36_5, hcz36_6, hcz36_7⟩ := bc8 BK148.out
       obtain ⟨hfz36_0, hfz36_1, hfz36_2, hfz36_3, hfz36_4, hfz36_5, hfz36_6, hfz36_7⟩ := bf8 BK148.out
       have hnb37 := NB149_145.out
       have hnc37 := NB145_149.out
       have hnb38 := NB149_146.out
       have hnc38 := NB146_149.out
       have hnb39 := NB149_147.out
       have hnc39 := NB147_149.out
       obtain ⟨hcz40_0, hcz40_1, hcz40_2, hcz40_3, hcz40_4, hcz40_5, hcz40_6, hcz40_7⟩ := bc8 BK149.out
       obtain ⟨hfz40_0, hfz40_1, hfz40_2, hfz40_3, hfz40_4, hfz40_5, hfz40_6, hfz40_7⟩ := bf8 BK149.out
       go_wp2
       go_meet
       case rel => exact ⟨_, ((pick2 x12_1 a0_0 a1_0)), H', ⟨by have := HK1.out; first | omega | exact Nat.le_refl _⟩, ⟨by refine blk_far ?_ NB145_148.out _; (iterate 8 (refine blk_far ?_ NB145_149.out _)); (with_reducible repeat (first | refine blk_drewN ?_ _ | refine blk_drew ?_ | refine blk_alloc ?_ _)); exact BK145.out⟩, ⟨by refine blk_far ?_ NB146_148.out _; (iterate 8 (refine blk_far ?_ NB146_149.out _)); (with_reducible repeat (first | refine blk_drewN ?_ _ | refine blk_drew ?_ | refine blk_alloc ?_ _)); exact BK146.out⟩, ⟨by refine blk_far ?_ NB147_148.out _; (iterate 8 (refine blk_far ?_ NB147_149.out _)); (with_reducible repeat (first | refine blk_drewN ?_ _ | refine blk_drew ?_ | refine blk_alloc ?_ _)); exact BK147.out⟩, ⟨by refine blk_put (cs := #[.bool false, .bool x149001_1, .bool x149002_1, .int .i64 x149003_1, .string x149004_1, .bool x149005_1, .int .i64 x149006_1, .string x149007_1]) ?_ 0 _ rfl; (iterate 8 (refine blk_far ?_ NB148_149.out _)); (with_reducible repeat (first | refine blk_drewN ?_ _ | refine blk_drew ?_ | refine blk_alloc ?_ _)); exact BK148.out⟩, ⟨by refine blk_far ?_ NB149_148.out _; refine blk_put (cs := #[.bool (pick2 x12_1 a0_0 a1_0), .bool (pick2 x12_1 a0_1 a1_1), .bool (pick2 x12_1 a0_2 a1_2), .int .i64 (pick2 x12_1 a0_3 a1_3), .string (pick2 x12_1 a0_4 a1_4), .bool (pick2 x12_1 a0_5 a1_5), .int .i64 (pick2 x12_1 a0_6 a1_6), .string (⟨#[]⟩ : ByteArray)]) ?_ 7 _ rfl; refine blk_put (cs := #[.bool (pick2 x12_1 a0_0 a1_0), .bool (pick2 x12_1 a0_1 a1_1), .bool (pick2 x12_1 a0_2 a1_2), .int .i64 (pick2 x12_1 a0_3 a1_3), .string (pick2 x12_1 a0_4 a1_4), .bool (pick2 x12_1 a0_5 a1_5), .int .i64 0, .string (⟨#[]⟩ : ByteArray)]) ?_ 6 _ rfl; refine blk_put (cs := #[.bool (pick2 x12_1 a0_0 a1_0), .bool (pick2 x12_1 a0_1 a1_1), .bool (pick2 x12_1 a0_2 a1_2), .int .i64 (pick2 x12_1 a0_3 a1_3), .string (pick2 x12_1 a0_4 a1_4), .bool false, .int .i64 0, .string (⟨#[]⟩ : ByteArray)]) ?_ 5 _ rfl; refine blk_put (cs := #[.bool (pick2 x12_1 a0_0 a1_0), .bool (pick2 x12_1 a0_1 a1_1), .bool (pick2 x12_1 a0_2 a1_2), .int .i64 (pick2 x12_1 a0_3 a1_3), .string (⟨#[]⟩ : ByteArray), .bool false, .int .i64 0, .string (⟨#[]⟩ : ByteArray)]) ?_ 4 _ rfl; refine blk_put (cs := #[.bool (pick2 x12_1 a0_0 a1_0), .bool (pick2 x12_1 a0_1 a1_1), .bool (pick2 x12_1 a0_2 a1_2), .int .i64 0, .string (⟨#[]⟩ : ByteArray), .bool false, .int .i64 0, .string (⟨#[]⟩ : ByteArray)]) ?_ 3 _ rfl; refine blk_put (cs := #[.bool (pick2 x12_1 a0_0 a1_0), .bool (pick2 x12_1 a0_1 a1_1), .bool false, .int .i64 0, .string (⟨#[]⟩ : ByteArray), .bool false, .int .i64 0, .string (⟨#[]⟩ : ByteArray)]) ?_ 2 _ rfl; refine blk_put (cs := #[.bool (pick2 x12_1 a0_0 a1_0), .bool false, .bool false, .int .i64 0, .string (⟨#[]⟩ : ByteArray), .bool false, .int .i64 0, .string (⟨#[]⟩ : ByteArray)]) ?_ 1 _ rfl; refine blk_put (cs := #[.bool false, .bool false, .bool false, .int .i64 0, .string (⟨#[]⟩ : ByteArray), .bool false, .int .i64 0, .string (⟨#[]⟩ : ByteArray)]) ?_ 0 _ rfl; (with_reducible repeat (first | refine blk_drewN ?_ _ | refine blk_drew ?_ | refine blk_alloc ?_ _)); exact BK149.out⟩, ⟨by repeat (first | (with_reducible first | exact HB.out | apply below_alloc | apply pw_below_drewN | apply below_drew1 | refine below_set ?_ GE145.out | refine below_set ?_ GE146.out | refine below_set ?_ GE147.out | refine below_set ?_ GE148.out | refine below_set ?_ GE149.out) | exact HB.out)⟩⟩
     case rest =>
      clear HC19
      try clear c1
      try clear p1
      try clear q1
      try clear hx1
      try clear c2
      try clear p2
      try clear c3
      try clear c7
      try clear c8
      try clear c9
      try clear c11
      try clear c12
      try clear c14
      try clear c16
      try clear c16b0
      try clear c17
      try clear c17b0
      try clear p18
      try clear q18
      try clear hx18
      try clear c21
      try clear c22
      try clear c23
      try clear c24
      try clear c25
      try clear c26
      try clear c27
      try clear c28
      try clear c29
      try clear c30
      try clear c32
      try clear c33
      try clear c34
      try clear c35
      try clear c37
      try clear c38
      try clear c39
      try clear hcz10_0 hcz10_1 hcz10_2 hcz10_3 hcz10_4 hcz10_5 hcz10_6 hcz10_7
      try clear hcz13_0 hcz13_1 hcz13_2 hcz13_3 hcz13_4 hcz13_5 hcz13_6 hcz13_7
      try clear hcz15_0 hcz15_1 hcz15_2 hcz15_3 hcz15_4 hcz15_5 hcz15_6 hcz15_7
      try clear hcz25_0 hcz25_1 hcz25_2 hcz25_3 hcz25_4 hcz25_5 hcz25_6 hcz25_7
      try clear hcz31_0 hcz31_1 hcz31_2 hcz31_3 hcz31_4 hcz31_5 hcz31_6 hcz31_7
      try clear hcz36_0 hcz36_1 hcz36_2 hcz36_3 hcz36_4 hcz36_5 hcz36_6 hcz36_7
      try clear hcz40_0 hcz40_1 hcz40_2 hcz40_3 hcz40_4 hcz40_5 hcz40_6 hcz40_7
      try clear hfz10_0 hfz10_1 hfz10_2 hfz10_3 hfz10_4 hfz10_5 hfz10_6 hfz10_7
      try clear hfz13_0 hfz13_1 hfz13_2 hfz13_3 hfz13_4 hfz13_5 hfz13_6 hfz13_7
      try clear hfz15_0 hfz15_1 hfz15_2 hfz15_3 hfz15_4 hfz15_5 hfz15_6 hfz15_7
      try clear hfz25_0 hfz25_1 hfz25_2 hfz25_3 hfz25_4 hfz25_5 hfz25_6 hfz25_7
      try clear hfz31_0 hfz31_1 hfz31_2 hfz31_3 hfz31_4 hfz31_5 hfz31_6 hfz31_7
      try clear hfz36_0 hfz36_1 hfz36_2 hfz36_3 hfz36_4 hfz36_5 hfz36_6 hfz36_7
      try clear hfz40_0 hfz40_1 hfz40_2 hfz40_3 hfz40_4 hfz40_5 hfz40_6 hfz40_7
      try clear p18
      try clear p2
      try clear q18
      obtain ⟨kq, x149000_18, HA, HJ18, BK145, BK146, BK147, BK148, BK149, HB⟩ := hcut
      cases kq with
      | zero => exact absurd HA.out (by simp [zone_Join.j1])
      | succ kj18 =>
       have H := HA.out
       clear HA
       simp only [zone_Join.j1] at H
       by_cases c41 : (pick2 x12_1 a0_1 a1_1) = true
       ·rw [if_pos c41] at H
        have c41b0 : (pick2 x12_1 a0_1 a1_1) = true := c41
        clear c41
        replace H := Option.bind_eq_some_iff.mp H
        obtain ⟨⟨t150, t151, t152, t153, t154, t155, t156, t157⟩, A420, H⟩ := H
        replace H : (if x149001_1 = true then ((kinds_Compare_c.f t152 t153 t154 x149002_1 x149003_1 x149004_1).bind fun t158 => (if t158 < 0 then (zone_Join.j2 kj18 x12_1 a0_0 a0_1 a0_2 a0_3 a0_4 a0_5 a0_6 a0_7 a1_0 a1_1 a1_2 a1_3 a1_4 a1_5 a1_6 a1_7 x149000_18 x149001_1 t152 t153 t154 x149005_1 x149006_1 x149007_1 t150 t151 t152 t153 t154 t155 t156 t157) else (zone_Join.j2 kj18 x12_1 a0_0 a0_1 a0_2 a0_3 a0_4 a0_5 a0_6 a0_7 a1_0 a1_1 a1_2 a1_3 a1_4 a1_5 a1_6 a1_7 x149000_18 x149001_1 x149002_1 x149003_1 x149004_1 x149005_1 x149006_1 x149007_1 t150 t151 t152 t153 t154 t155 t156 t157))) else (zone_Join.l0 kj18 (wrap64 (x12_1 + 1)) a0_0 a0_1 a0_2 a0_3 a0_4 a0_5 a0_6 a0_7 a1_0 a1_1 a1_2 a1_3 a1_4 a1_5 a1_6 a1_7 x149000_18 t151 t152 t153 t154 t155 t156 t157)) = some (r1, r2, r3, r4, r5, r6, r7, r8) := H
        have A42 := Aside0.mk A420
        clear A420
        by_cases c43 : x149001_1 = true
        ·subst c43
         have H1 : ((kinds_Compare_c.f t152 t153 t154 x149002_1 x149003_1 x149004_1).bind fun t158 => (if t158 < 0 then (zone_Join.j2 kj18 x12_1 a0_0 a0_1 a0_2 a0_3 a0_4 a0_5 a0_6 a0_7 a1_0 a1_1 a1_2 a1_3 a1_4 a1_5 a1_6 a1_7 x149000_18 true t152 t153 t154 x149005_1 x149006_1 x149007_1 t150 t151 t152 t153 t154 t155 t156 t157) else (zone_Join.j2 kj18 x12_1 a0_0 a0_1 a0_2 a0_3 a0_4 a0_5 a0_6 a0_7 a1_0 a1_1 a1_2 a1_3 a1_4 a1_5 a1_6 a1_7 x149000_18 true x149002_1 x149003_1 x149004_1 x149005_1 x149006_1 x149007_1 t150 t151 t152 t153 t154 t155 t156 t157))) = some (r1, r2, r3, r4, r5, r6, r7, r8) := by rw [if_pos rfl] at H; exact H
         clear H
         have H := H1
         clear H1
         replace H := Option.bind_eq_some_iff.mp H
         obtain ⟨t158, A440, H⟩ := H
         replace H : (if t158 < 0 then (zone_Join.j2 kj18 x12_1 a0_0 a0_1 a0_2 a0_3 a0_4 a0_5 a0_6 a0_7 a1_0 a1_1 a1_2 a1_3 a1_4 a1_5 a1_6 a1_7 x149000_18 true t152 t153 t154 x149005_1 x149006_1 x149007_1 t150 t151 t152 t153 t154 t155 t156 t157) else (zone_Join.j2 kj18 x12_1 a0_0 a0_1 a0_2 a0_3 a0_4 a0_5 a0_6 a0_7 a1_0 a1_1 a1_2 a1_3 a1_4 a1_5 a1_6 a1_7 x149000_18 true x149002_1 x149003_1 x149004_1 x149005_1 x149006_1 x149007_1 t150 t151 t152 t153 t154 t155 t156 t157)) = some (r1, r2, r3, r4, r5, r6, r7, r8) := H
         have A44 := Aside0.mk A440
         clear A440
         have HC45 := Aside0.mk H
         clear H
         have hnb46 := NB149_145.out
         have hnc46 := NB145_149.out
         have hnb47 := NB149_146.out
         have hnc47 := NB146_149.out
         have hnb48 := NB149_147.out
         have hnc48 := NB147_149.out
         have hnb49 := NB149_148.out
         have hnc49 := NB148_149.out
         obtain ⟨hcz50_0, hcz50_1, hcz50_2, hcz50_3, hcz50_4, hcz50_5, hcz50_6, hcz50_7⟩ := bc8 BK149.out
         obtain ⟨hfz50_0, hfz50_1, hfz50_2, hfz50_3, hfz50_4, hfz50_5, hfz50_6, hfz50_7⟩ := bf8 BK149.out
         go_upto_if 39 with (first | ((with_reducible refine gate_callee (f := 49) rfl ?_); refine goesL_ (some 26) rfl rfl Try.func49 (by kernel_rfl) rfl #[.agg #[.bool (pick2 x12_1 a0_0 a1_0), .bool (pick2 x12_1 a0_1 a1_1), .bool (pick2 x12_1 a0_2 a1_2), .int .i64 (pick2 x12_1 a0_3 a1_3), .string (pick2 x12_1 a0_4 a1_4), .bool (pick2 x12_1 a0_5 a1_5), .int .i64 (pick2 x12_1 a0_6 a1_6), .string (pick2 x12_1 a0_7 a1_7)]] rfl (by (try simp only [List.map_toArray, List.map_cons, List.map_nil]); first | done | rfl | (simp only [List.length_drop, List.length_take]; rfl) | (simp only [*]; first | done | rfl) | (simp [*]; first | done | rfl)) ?_; (with_reducible refine (zone_ordered_c.calls (pick2 x12_1 a0_0 a1_0) (pick2 x12_1 a0_1 a1_1) (pick2 x12_1 a0_2 a1_2) (pick2 x12_1 a0_3 a1_3) (pick2 x12_1 a0_4 a1_4) (pick2 x12_1 a0_5 a1_5) (pick2 x12_1 a0_6 a1_6) (pick2 x12_1 a0_7 a1_7) t150 t151 t152 t153 t154 t155 t156 t157 _ A42.out).mono ?_); rintro e w51 ⟨rfl, hb⟩; refine ⟨_, rfl, ?_⟩; have n0_ := Aside0.mk (blk_below (g := gb145) (o := .cells #[.bool a0_0, .bool a0_1, .bool a0_2, .int .i64 a0_3, .string a0_4, .bool a0_5, .int .i64 a0_6, .string a0_7] 41 (0, 0)) (by (with_reducible repeat (first | refine blk_drewN ?_ _ | refine blk_drew ?_ | refine blk_alloc ?_ _)); exact BK145.out) hb); have n1_ := Aside0.mk (blk_below (g := gb146) (o := .cells #[.bool a1_0, .bool a1_1, .bool a1_2, .int .i64 a1_3, .string a1_4, .bool a1_5, .int .i64 a1_6, .string a1_7] 41 (0, 0)) (by (with_reducible repeat (first | refine blk_drewN ?_ _ | refine blk_drew ?_ | refine blk_alloc ?_ _)); exact BK146.out) hb); have n2_ := Aside0.mk (blk_below (g := gb147) (o := .cells #[.bool false, .bool false, .bool false, .int .i64 0, .string (⟨#[]⟩ : ByteArray), .bool false, .int .i64 0, .string (⟨#[]⟩ : ByteArray)] 41 (0, 0)) (by (with_reducible repeat (first | refine blk_drewN ?_ _ | refine blk_drew ?_ | refine blk_alloc ?_ _)); exact BK147.out) hb); have n3_ := Aside0.mk (blk_below (g := gb148) (o := .cells #[.bool x149000_18, .bool true, .bool x149002_1, .int .i64 x149003_1, .string x149004_1, .bool x149005_1, .int .i64 x149006_1, .string x149007_1] 41 (0, 0)) (by (with_reducible repeat (first | refine blk_drewN ?_ _ | refine blk_drew ?_ | refine blk_alloc ?_ _)); exact BK148.out) hb); have n4_ := Aside0.mk (blk_below (g := gb149) (o := .cells #[.bool (pick2 x12_1 a0_0 a1_0), .bool (pick2 x12_1 a0_1 a1_1), .bool (pick2 x12_1 a0_2 a1_2), .int .i64 (pick2 x12_1 a0_3 a1_3), .string (pick2 x12_1 a0_4 a1_4), .bool (pick2 x12_1 a0_5 a1_5), .int .i64 (pick2 x12_1 a0_6 a1_6), .string (pick2 x12_1 a0_7 a1_7)] 41 (0, 0)) (by (with_reducible repeat (first | refine blk_drewN ?_ _ | refine blk_drew ?_ | refine blk_alloc ?_ _)); exact BK149.out) hb); have n5_ := Aside0.mk (below_step (by with_reducible repeat first | exact HB.out | apply below_alloc | apply pw_below_drewN | apply below_drew1 | refine below_set ?_ GE145.out | refine below_set ?_ GE146.out | refine below_set ?_ GE147.out | refine below_set ?_ GE148.out | refine below_set ?_ GE149.out) hb); clear BK145; clear BK146; clear BK147; clear BK148; clear BK149; clear HB; have BK145 := n0_; have BK146 := n1_; have BK147 := n2_; have BK148 := n3_; have BK149 := n4_; have HB := n5_; clear n0_ n1_ n2_ n3_ n4_ n5_; (try clear hb); (try clear hb2); (try clear hk); (try clear hi); obtain ⟨hcz52_0, hcz52_1, hcz52_2, hcz52_3, hcz52_4, hcz52_5, hcz52_6, hcz52_7⟩ := bc8 BK149.out; obtain ⟨hfz52_0, hfz52_1, hfz52_2, hfz52_3, hfz52_4, hfz52_5, hfz52_6, hfz52_7⟩ := bf8 BK149.out; have hnb53 := NB148_145.out; have hnc53 := NB145_148.out; have hnb54 := NB148_146.out; have hnc54 := NB146_148.out; have hnb55 := NB148_147.out; have hnc55 := NB147_148.out; obtain ⟨hcz56_0, hcz56_1, hcz56_2, hcz56_3, hcz56_4, hcz56_5, hcz56_6, hcz56_7⟩ := bc8 BK148.out; obtain ⟨hfz56_0, hfz56_1, hfz56_2, hfz56_3, hfz56_4, hfz56_5, hfz56_6, hfz56_7⟩ := bf8 BK148.out) | ((with_reducible refine gate_callee (f := 45) rfl ?_); refine goesL_ (some 38) rfl rfl Try.func45 (by kernel_rfl) rfl #[.agg #[.bool t152, .int .i64 t153, .string t154], .agg #[.bool x149002_1, .int .i64 x149003_1, .string x149004_1]] rfl (by (try simp only [List.map_toArray, List.map_cons, List.map_nil]); first | done | rfl | (simp only [List.length_drop, List.length_take]; rfl) | (simp only [*]; first | done | rfl) | (simp [*]; first | done | rfl)) ?_; (with_reducible refine (kinds_Compare_c.calls t152 t153 t154 x149002_1 x149003_1 x149004_1 t158 _ A44.out).mono ?_); rintro e w57 ⟨rfl, hb⟩; refine ⟨_, rfl, ?_⟩; have n0_ := Aside0.mk (blk_below (g := gb145) (o := .cells #[.bool a0_0, .bool a0_1, .bool a0_2, .int .i64 a0_3, .string a0_4, .bool a0_5, .int .i64 a0_6, .string a0_7] 41 (0, 0)) (by (iterate 8 (refine blk_far ?_ NB145_149.out _)); (with_reducible repeat (first | refine blk_drewN ?_ _ | refine blk_drew ?_ | refine blk_alloc ?_ _)); exact BK145.out) hb); have n1_ := Aside0.mk (blk_below (g := gb146) (o := .cells #[.bool a1_0, .bool a1_1, .bool a1_2, .int .i64 a1_3, .string a1_4, .bool a1_5, .int .i64 a1_6, .string a1_7] 41 (0, 0)) (by (iterate 8 (refine blk_far ?_ NB146_149.out _)); (with_reducible repeat (first | refine blk_drewN ?_ _ | refine blk_drew ?_ | refine blk_alloc ?_ _)); exact BK146.out) hb); have n2_ := Aside0.mk (blk_below (g := gb147) (o := .cells #[.bool false, .bool false, .bool false, .int .i64 0, .string (⟨#[]⟩ : ByteArray), .bool false, .int .i64 0, .string (⟨#[]⟩ : ByteArray)] 41 (0, 0)) (by (iterate 8 (refine blk_far ?_ NB147_149.out _)); (with_reducible repeat (first | refine blk_drewN ?_ _ | refine blk_drew ?_ | refine blk_alloc ?_ _)); exact BK147.out) hb); have n3_ := Aside0.mk (blk_below (g := gb148) (o := .cells #[.bool x149000_18, .bool true, .bool x149002_1, .int .i64 x149003_1, .string x149004_1, .bool x149005_1, .int .i64 x149006_1, .string x149007_1] 41 (0, 0)) (by (iterate 8 (refine blk_far ?_ NB148_149.out _)); (with_reducible repeat (first | refine blk_drewN ?_ _ | refine blk_drew ?_ | refine blk_alloc ?_ _)); exact BK148.out) hb); have n4_ := Aside0.mk (blk_below (g := gb149) (o := .cells #[.bool t150, .bool t151, .bool t152, .int .i64 t153, .string t154, .bool t155, .int .i64 t156, .string t157] 41 (0, 0)) (by refine blk_put (cs := #[.bool t150, .bool t151, .bool t152, .int .i64 t153, .string t154, .bool t155, .int .i64 t156, .string (pick2 x12_1 a0_7 a1_7)]) ?_ 7 _ rfl; refine blk_put (cs := #[.bool t150, .bool t151, .bool t152, .int .i64 t153, .string t154, .bool t155, .int .i64 (pick2 x12_1 a0_6 a1_6), .string (pick2 x12_1 a0_7 a1_7)]) ?_ 6 _ rfl; refine blk_put (cs := #[.bool t150, .bool t151, .bool t152, .int .i64 t153, .string t154, .bool (pick2 x12_1 a0_5 a1_5), .int .i64 (pick2 x12_1 a0_6 a1_6), .string (pick2 x12_1 a0_7 a1_7)]) ?_ 5 _ rfl; refine blk_put (cs := #[.bool t150, .bool t151, .bool t152, .int .i64 t153, .string (pick2 x12_1 a0_4 a1_4), .bool (pick2 x12_1 a0_5 a1_5), .int .i64 (pick2 x12_1 a0_6 a1_6), .string (pick2 x12_1 a0_7 a1_7)]) ?_ 4 _ rfl; refine blk_put (cs := #[.bool t150, .bool t151, .bool t152, .int .i64 (pick2 x12_1 a0_3 a1_3), .string (pick2 x12_1 a0_4 a1_4), .bool (pick2 x12_1 a0_5 a1_5), .int .i64 (pick2 x12_1 a0_6 a1_6), .string (pick2 x12_1 a0_7 a1_7)]) ?_ 3 _ rfl; refine blk_put (cs := #[.bool t150, .bool t151, .bool (pick2 x12_1 a0_2 a1_2), .int .i64 (pick2 x12_1 a0_3 a1_3), .string (pick2 x12_1 a0_4 a1_4), .bool (pick2 x12_1 a0_5 a1_5), .int .i64 (pick2 x12_1 a0_6 a1_6), .string (pick2 x12_1 a0_7 a1_7)]) ?_ 2 _ rfl; refine blk_put (cs := #[.bool t150, .bool (pick2 x12_1 a0_1 a1_1), .bool (pick2 x12_1 a0_2 a1_2), .int .i64 (pick2 x12_1 a0_3 a1_3), .string (pick2 x12_1 a0_4 a1_4), .bool (pick2 x12_1 a0_5 a1_5), .int .i64 (pick2 x12_1 a0_6 a1_6), .string (pick2 x12_1 a0_7 a1_7)]) ?_ 1 _ rfl; refine blk_put (cs := #[.bool (pick2 x12_1 a0_0 a1_0), .bool (pick2 x12_1 a0_1 a1_1), .bool (pick2 x12_1 a0_2 a1_2), .int .i64 (pick2 x12_1 a0_3 a1_3), .string (pick2 x12_1 a0_4 a1_4), .bool (pick2 x12_1 a0_5 a1_5), .int .i64 (pick2 x12_1 a0_6 a1_6), .string (pick2 x12_1 a0_7 a1_7)]) ?_ 0 _ rfl; (with_reducible repeat (first | refine blk_drewN ?_ _ | refine blk_drew ?_ | refine blk_alloc ?_ _)); exact BK149.out) hb); have n5_ := Aside0.mk (below_step (by with_reducible repeat first | exact HB.out | apply below_alloc | apply pw_below_drewN | apply below_drew1 | refine below_set ?_ GE145.out | refine below_set ?_ GE146.out | refine below_set ?_ GE147.out | refine below_set ?_ GE148.out | refine below_set ?_ GE149.out) hb); clear BK145; clear BK146; clear BK147; clear BK148; clear BK149; clear HB; have BK145 := n0_; have BK146 := n1_; have BK147 := n2_; have BK148 := n3_; have BK149 := n4_; have HB := n5_; clear n0_ n1_ n2_ n3_ n4_ n5_; (try clear hb); (try clear hb2); (try clear hk); (try clear hi)))
         (try simp only [Act.put, List.setIfInBounds_toArray, List.set_cons_zero, List.set_cons_succ])
         go_cut [] (fun wc => ∃ (kq : Nat) (x149002_44 : Bool) (x149003_44 : Int) (x149004_44 : ByteArray), Aside0 (zone_Join.j2 kq x12_1 a0_0 a0_1 a0_2 a0_3 a0_4 a0_5 a0_6 a0_7 a1_0 a1_1 a1_2 a1_3 a1_4 a1_5 a1_6 a1_7 x149000_18 true x149002_44 x149003_44 x149004_44 x149005_1 x149006_1 x149007_1 t150 t151 t152 t153 t154 t155 t156 t157 = some (r1, r2, r3, r4, r5, r6, r7, r8)) ∧ Aside0 (kq ≤ kj18) ∧ Aside0 (wc.heap[gb145]? = some (.cells #[.bool a0_0, .bool a0_1, .bool a0_2, .int .i64 a0_3, .string a0_4, .bool a0_5, .int .i64 a0_6, .string a0_7] 41 (0, 0))) ∧ Aside0 (wc.heap[gb146]? = some (.cells #[.bool a1_0, .bool a1_1, .bool a1_2, .int .i64 a1_3, .string a1_4, .bool a1_5, .int .i64 a1_6, .string a1_7] 41 (0, 0))) ∧ Aside0 (wc.heap[gb147]? = some (.cells #[.bool false, .bool false, .bool false, .int .i64 0, .string (⟨#[]⟩ : ByteArray), .bool false, .int .i64 0, .string (⟨#[]⟩ : ByteArray)] 41 (0, 0))) ∧ Aside0 (wc.heap[gb148]? = some (.cells #[.bool x149000_18, .bool true, .bool x149002_44, .int .i64 x149003_44, .string x149004_44, .bool x149005_1, .int .i64 x149006_1, .string x149007_1] 41 (0, 0))) ∧ Aside0 (wc.heap[gb149]? = some (.cells #[.bool t150, .bool t151, .bool t152, .int .i64 t153, .string t154, .bool t155, .int .i64 t156, .string t157] 41 (0, 0))) ∧ Aside0 (Below w.heap.size w wc))
         case first =>
          have H := HC45.out
          clear HC45
          by_cases c58 : t158 < 0
          ·rw [if_pos c58] at H
           have c58b0 : decide (t158 < 0) = true := decide_eq_true c58
           clear c58
           (first | rw [c58b0] | (simp only [i64_w, i32_w]; rw [c58b0]) | skip)
           have H' := Aside0.mk H
           clear H
           have hnb59 := NB149_145.out
           have hnc59 := NB145_149.out
           have hnb60 := NB149_146.out
           have hnc60 := NB146_149.out
           have hnb61 := NB149_147.out
           have hnc61 := NB147_149.out
           have hnb62 := NB149_148.out
           have hnc62 := NB148_149.out
           obtain ⟨hcz63_0, hcz63_1, hcz63_2, hcz63_3, hcz63_4, hcz63_5, hcz63_6, hcz63_7⟩ := bc8 BK149.out
           obtain ⟨hfz63_0, hfz63_1, hfz63_2, hfz63_3, hfz63_4, hfz63_5, hfz63_6, hfz63_7⟩ := bf8 BK149.out
           have hnb64 := NB148_145.out
           have hnc64 := NB145_148.out
           have hnb65 := NB148_146.out
           have hnc65 := NB146_148.out
           have hnb66 := NB148_147.out
           have hnc66 := NB147_148.out
           obtain ⟨hcz67_0, hcz67_1, hcz67_2, hcz67_3, hcz67_4, hcz67_5, hcz67_6, hcz67_7⟩ := bc8 BK148.out
           obtain ⟨hfz67_0, hfz67_1, hfz67_2, hfz67_3, hfz67_4, hfz67_5, hfz67_6, hfz67_7⟩ := bf8 BK148.out
           go_wp2
           go_meet
           case rel => exact ⟨_, (t152), (t153), (t154), H', ⟨by have := HK1.out; have := HJ18.out; first | omega | exact Nat.le_refl _⟩, ⟨by (iterate 3 (refine blk_far ?_ NB145_148.out _)); (with_reducible repeat (first | refine blk_drewN ?_ _ | refine blk_drew ?_ | refine blk_alloc ?_ _)); exact BK145.out⟩, ⟨by (iterate 3 (refine blk_far ?_ NB146_148.out _)); (with_reducible repeat (first | refine blk_drewN ?_ _ | refine blk_drew ?_ | refine blk_alloc ?_ _)); exact BK146.out⟩, ⟨by (iterate 3 (refine blk_far ?_ NB147_148.out _)); (with_reducible repeat (first | refine blk_drewN ?_ _ | refine blk_drew ?_ | refine blk_alloc ?_ _)); exact BK147.out⟩, ⟨by refine blk_put (cs := #[.bool x149000_18, .bool true, .bool t152, .int .i64 t153, .string x149004_1, .bool x149005_1, .int .i64 x149006_1, .string x149007_1]) ?_ 4 _ rfl; refine blk_put (cs := #[.bool x149000_18, .bool true, .bool t152, .int .i64 x149003_1, .string x149004_1, .bool x149005_1, .int .i64 x149006_1, .string x149007_1]) ?_ 3 _ rfl; refine blk_put (cs := #[.bool x149000_18, .bool true, .bool x149002_1, .int .i64 x149003_1, .string x149004_1, .bool x149005_1, .int .i64 x149006_1, .string x149007_1]) ?_ 2 _ rfl; (with_reducible repeat (first | refine blk_drewN ?_ _ | refine blk_drew ?_ | refine blk_alloc ?_ _)); exact BK148.out⟩, ⟨by (iterate 3 (refine blk_far ?_ NB149_148.out _)); (with_reducible repeat (first | refine blk_drewN ?_ _ | refine blk_drew ?_ | refine blk_alloc ?_ _)); exact BK149.out⟩, ⟨by repeat (first | (with_reducible first | exact HB.out | apply below_alloc | apply pw_below_drewN | apply below_drew1 | refine below_set ?_ GE145.out | refine below_set ?_ GE146.out | refine below_set ?_ GE147.out | refine below_set ?_ GE148.out | refine below_set ?_ GE149.out) | exact HB.out)⟩⟩
          ·rw [if_neg c58] at H
           have c58b0 : decide (t158 < 0) = false := decide_eq_false c58
           clear c58
           (first | rw [c58b0] | (simp only [i64_w, i32_w]; rw [c58b0]) | skip)
           have H' := Aside0.mk H
           clear H
           go_wp2
           go_meet
           case rel => exact ⟨_, (x149002_1), (x149003_1), (x149004_1), H', ⟨by have := HK1.out; have := HJ18.out; first | omega | exact Nat.le_refl _⟩, ⟨by (with_reducible repeat (first | refine blk_drewN ?_ _ | refine blk_drew ?_ | refine blk_alloc ?_ _)); exact BK145.out⟩, ⟨by (with_reducible repeat (first | refine blk_drewN ?_ _ | refine blk_drew ?_ | refine blk_alloc ?_ _)); exact BK146.out⟩, ⟨by (with_reducible repeat (first | refine blk_drewN ?_ _ | refine blk_drew ?_ | refine blk_alloc ?_ _)); exact BK147.out⟩, ⟨by (with_reducible repeat (first | refine blk_drewN ?_ _ | refine blk_drew ?_ | refine blk_alloc ?_ _)); exact BK148.out⟩, ⟨by (with_reducible repeat (first | refine blk_drewN ?_ _ | refine blk_drew ?_ | refine blk_alloc ?_ _)); exact BK149.out⟩, ⟨by repeat (first | (with_reducible first | exact HB.out | apply below_alloc | apply pw_below_drewN | apply below_drew1 | refine below_set ?_ GE145.out | refine below_set ?_ GE146.out | refine below_set ?_ GE147.out | refine below_set ?_ GE148.out | refine below_set ?_ GE149.out) | exact HB.out)⟩⟩
         case rest =>
          clear HC45
          try clear c1
          try clear p1
          try clear q1
          try clear hx1
          try clear c2
          try clear p2
          try clear c3
          try clear c4
          try clear c5
          try clear c6
          try clear p6
          try clear c7
          try clear c8
          try clear c9
          try clear c11
          try clear c12
          try clear c14
          try clear c16
          try clear c16b0
          try clear c17
          try clear c17b0
          try clear p18
          try clear q18
          try clear hx18
          try clear c21
          try clear c22
          try clear c23
          try clear c24
          try clear c25
          try clear c26
          try clear c27
          try clear c28
          try clear c29
          try clear c30
          try clear c32
          try clear c33
          try clear c34
          try clear c35
          try clear c37
          try clear c38
          try clear c39
          try clear c41
          try clear c41b0
          try clear c43
          try clear c45
          try clear c46
          try clear c47
          try clear c48
          try clear c49
          try clear c53
          try clear c54
          try clear c55
          try clear c58
          try clear c58b0
          try clear c59
          try clear c60
          try clear c61
          try clear c62
          try clear c64
          try clear p64
          try clear c65
          try clear c66
          try clear hcz10_0 hcz10_1 hcz10_2 hcz10_3 hcz10_4 hcz10_5 hcz10_6 hcz10_7
          try clear hcz13_0 hcz13_1 hcz13_2 hcz13_3 hcz13_4 hcz13_5 hcz13_6 hcz13_7
          try clear hcz15_0 hcz15_1 hcz15_2 hcz15_3 hcz15_4 hcz15_5 hcz15_6 hcz15_7
          try clear hcz25_0 hcz25_1 hcz25_2 hcz25_3 hcz25_4 hcz25_5 hcz25_6 hcz25_7
          try clear hcz31_0 hcz31_1 hcz31_2 hcz31_3 hcz31_4 hcz31_5 hcz31_6 hcz31_7
          try clear hcz36_0 hcz36_1 hcz36_2 hcz36_3 hcz36_4 hcz36_5 hcz36_6 hcz36_7
          try clear hcz40_0 hcz40_1 hcz40_2 hcz40_3 hcz40_4 hcz40_5 hcz40_6 hcz40_7
          try clear hcz50_0 hcz50_1 hcz50_2 hcz50_3 hcz50_4 hcz50_5 hcz50_6 hcz50_7
          try clear hcz52_0 hcz52_1 hcz52_2 hcz52_3 hcz52_4 hcz52_5 hcz52_6 hcz52_7
          try clear hcz56_0 hcz56_1 hcz56_2 hcz56_3 hcz56_4 hcz56_5 hcz56_6 hcz56_7
          try clear hcz63_0 hcz63_1 hcz63_2 hcz63_3 hcz63_4 hcz63_5 hcz63_6 hcz63_7
          try clear hcz67_0 hcz67_1 hcz67_2 hcz67_3 hcz67_4 hcz67_5 hcz67_6 hcz67_7
          try clear hfz10_0 hfz10_1 hfz10_2 hfz10_3 hfz10_4 hfz10_5 hfz10_6 hfz10_7
          try clear hfz13_0 hfz13_1 hfz13_2 hfz13_3 hfz13_4 hfz13_5 hfz13_6 hfz13_7
          try clear hfz15_0 hfz15_1 hfz15_2 hfz15_3 hfz15_4 hfz15_5 hfz15_6 hfz15_7
          try clear hfz25_0 hfz25_1 hfz25_2 hfz25_3 hfz25_4 hfz25_5 hfz25_6 hfz25_7
          try clear hfz31_0 hfz31_1 hfz31_2 hfz31_3 hfz31_4 hfz31_5 hfz31_6 hfz31_7
          try clear hfz36_0 hfz36_1 hfz36_2 hfz36_3 hfz36_4 hfz36_5 hfz36_6 hfz36_7
          try clear hfz40_0 hfz40_1 hfz40_2 hfz40_3 hfz40_4 hfz40_5 hfz40_6 hfz40_7
          try clear hfz50_0 hfz50_1 hfz50_2 hfz50_3 hfz50_4 hfz50_5 hfz50_6 hfz50_7
          try clear hfz52_0 hfz52_1 hfz52_2 hfz52_3 hfz52_4 hfz52_5 hfz52_6 hfz52_7
          try clear hfz56_0 hfz56_1 hfz56_2 hfz56_3 hfz56_4 hfz56_5 hfz56_6 hfz56_7
          try clear hfz63_0 hfz63_1 hfz63_2 hfz63_3 hfz63_4 hfz63_5 hfz63_6 hfz63_7
          try clear hfz67_0 hfz67_1 hfz67_2 hfz67_3 hfz67_4 hfz67_5 hfz67_6 hfz67_7
          try clear p1
          try clear p18
          try clear p2
          try clear q1
          try clear q18
          obtain ⟨kq, x149002_44, x149003_44, x149004_44, HA, HJ44, BK145, BK146, BK147, BK148, BK149, HB⟩ := hcut
          cases kq with
          | zero => exact absurd HA.out (by simp [zone_Join.j2])
          | succ kj44 =>
           have H := HA.out
           clear HA
           simp only [zone_Join.j2] at H
           replace H := Option.bind_eq_some_iff.mp H
           obtain ⟨t159, A680, H⟩ := H
           replace H : (if t159 > 0 then (zone_Join.l0 kj44 (wrap64 (x12_1 + 1)) a0_0 a0_1 a0_2 a0_3 a0_4 a0_5 a0_6 a0_7 a1_0 a1_1 a1_2 a1_3 a1_4 a1_5 a1_6 a1_7 x149000_18 true x149002_44 x149003_44 x149004_44 t155 t156 t157) else (zone_Join.l0 kj44 (wrap64 (x12_1 + 1)) a0_0 a0_1 a0_2 a0_3 a0_4 a0_5 a0_6 a0_7 a1_0 a1_1 a1_2 a1_3 a1_4 a1_5 a1_6 a1_7 x149000_18 true x149002_44 x149003_44 x149004_44 x149005_1 x149006_1 x149007_1)) = some (r1, r2, r3, r4, r5, r6, r7, r8) := H
           have A68 := Aside0.mk A680
           clear A680
           by_cases c69 : t159 > 0
           ·rw [if_pos c69] at H
            have c69b0 : decide (0 < t159) = true := decide_eq_true c69
            clear c69
            have H' := Aside0.mk H
            clear H
            have hnb70 := NB149_145.out
            have hnc70 := NB145_149.out
            have hnb71 := NB149_146.out
            have hnc71 := NB146_149.out
            have hnb72 := NB149_147.out
            have hnc72 := NB147_149.out
            have hnb73 := NB149_148.out
            have hnc73 := NB148_149.out
            obtain ⟨hcz74_0, hcz74_1, hcz74_2, hcz74_3, hcz74_4, hcz74_5, hcz74_6, hcz74_7⟩ := bc8 BK149.out
            obtain ⟨hfz74_0, hfz74_1, hfz74_2, hfz74_3, hfz74_4, hfz74_5, hfz74_6, hfz74_7⟩ := bf8 BK149.out
            have hnb75 := NB148_145.out
            have hnc75 := NB145_148.out
            have hnb76 := NB148_146.out
            have hnc76 := NB146_148.out
            have hnb77 := NB148_147.out
            have hnc77 := NB147_148.out
            obtain ⟨hcz78_0, hcz78_1, hcz78_2, hcz78_3, hcz78_4, hcz78_5, hcz78_6, hcz78_7⟩ := bc8 BK148.out
            obtain ⟨hfz78_0, hfz78_1, hfz78_2, hfz78_3, hfz78_4, hfz78_5, hfz78_6, hfz78_7⟩ := bf8 BK148.out
            go_wp2_with (first | ((with_reducible refine gate_callee (f := 45) rfl ?_); refine goesL_ (some 47) rfl rfl Try.func45 (by kernel_rfl) rfl #[.agg #[.bool t155, .int .i64 t156, .string t157], .agg #[.bool x149005_1, .int .i64 x149006_1, .string x149007_1]] rfl (by (try simp only [List.map_toArray, List.map_cons, List.map_nil]); first | done | rfl | (simp only [List.length_drop, List.length_take]; rfl)) ?_; (with_reducible refine (kinds_Compare_c.calls t155 t156 t157 x149005_1 x149006_1 x149007_1 t159 _ A68.out).mono ?_); rintro e w79 ⟨rfl, hb⟩; refine ⟨_, rfl, ?_⟩; have n0_ := Aside0.mk (blk_below (g := gb145) (o := .cells #[.bool a0_0, .bool a0_1, .bool a0_2, .int .i64 a0_3, .string a0_4, .bool a0_5, .int .i64 a0_6, .string a0_7] 41 (0, 0)) (by (with_reducible repeat (first | refine blk_drewN ?_ _ | refine blk_drew ?_ | refine blk_alloc ?_ _)); exact BK145.out) hb); have n1_ := Aside0.mk (blk_below (g := gb146) (o := .cells #[.bool a1_0, .bool a1_1, .bool a1_2, .int .i64 a1_3, .string a1_4, .bool a1_5, .int .i64 a1_6, .string a1_7] 41 (0, 0)) (by (with_reducible repeat (first | refine blk_drewN ?_ _ | refine blk_drew ?_ | refine blk_alloc ?_ _)); exact BK146.out) hb); have n2_ := Aside0.mk (blk_below (g := gb147) (o := .cells #[.bool false, .bool false, .bool false, .int .i64 0, .string (⟨#[]⟩ : ByteArray), .bool false, .int .i64 0, .string (⟨#[]⟩ : ByteArray)] 41 (0, 0)) (by (with_reducible repeat (first | refine blk_drewN ?_ _ | refine blk_drew ?_ | refine blk_alloc ?_ _)); exact BK147.out) hb); have n3_ := Aside0.mk (blk_below (g := gb148) (o := .cells #[.bool x149000_18, .bool true, .bool x149002_44, .int .i64 x149003_44, .string x149004_44, .bool x149005_1, .int .i64 x149006_1, .string x149007_1] 41 (0, 0)) (by (with_reducible repeat (first | refine blk_drewN ?_ _ | refine blk_drew ?_ | refine blk_alloc ?_ _)); exact BK148.out) hb); have n4_ := Aside0.mk (blk_below (g := gb149) (o := .cells #[.bool t150, .bool t151, .bool t152, .int .i64 t153, .string t154, .bool t155, .int .i64 t156, .string t157] 41 (0, 0)) (by (with_reducible repeat (first | refine blk_drewN ?_ _ | refine blk_drew ?_ | refine blk_alloc ?_ _)); exact BK149.out) hb); have n5_ := Aside0.mk (below_step (by with_reducible repeat first | exact HB.out | apply below_alloc | apply pw_below_drewN | apply below_drew1 | refine below_set ?_ GE145.out | refine below_set ?_ GE146.out | refine below_set ?_ GE147.out | refine below_set ?_ GE148.out | refine below_set ?_ GE149.out) hb); clear BK145; clear BK146; clear BK147; clear BK148; clear BK149; clear HB; have BK145 := n0_; have BK146 := n1_; have BK147 := n2_; have BK148 := n3_; have BK149 := n4_; have HB := n5_; clear n0_ n1_ n2_ n3_ n4_ n5_; (try clear hb); (try clear hb2); (try clear hk); (try clear hi); obtain ⟨hcz80_0, hcz80_1, hcz80_2, hcz80_3, hcz80_4, hcz80_5, hcz80_6, hcz80_7⟩ := bc8 BK149.out; obtain ⟨hfz80_0, hfz80_1, hfz80_2, hfz80_3, hfz80_4, hfz80_5, hfz80_6, hfz80_7⟩ := bf8 BK149.out; obtain ⟨hcz81_0, hcz81_1, hcz81_2, hcz81_3, hcz81_4, hcz81_5, hcz81_6, hcz81_7⟩ := bc8 BK148.out; obtain ⟨hfz81_0, hfz81_1, hfz81_2, hfz81_3, hfz81_4, hfz81_5, hfz81_6, hfz81_7⟩ := bf8 BK148.out))
            go_roundg kj44
            case measure => have := HK1.out; have := HJ18.out; have := HJ44.out; omega
            case rel => exact ⟨(wrap64 (x12_1 + 1)), (x149000_18), (true), (x149002_44), (x149003_44), (x149004_44), (t155), (t156), (t157), (by first | rfl | (simp; done) | (simp [*]; done)), H', ⟨by have := HK1.out; have := HJ18.out; have := HJ44.out; omega⟩, ⟨by (iterate 3 (refine blk_far ?_ NB145_148.out _)); (with_reducible repeat (first | refine blk_drewN ?_ _ | refine blk_drew ?_ | refine blk_alloc ?_ _)); exact BK145.out⟩, ⟨by (iterate 3 (refine blk_far ?_ NB146_148.out _)); (with_reducible repeat (first | refine blk_drewN ?_ _ | refine blk_drew ?_ | refine blk_alloc ?_ _)); exact BK146.out⟩, ⟨by (iterate 3 (refine blk_far ?_ NB147_148.out _)); (with_reducible repeat (first | refine blk_drewN ?_ _ | refine blk_drew ?_ | refine blk_alloc ?_ _)); exact BK147.out⟩, ⟨by refine blk_put (cs := #[.bool x149000_18, .bool true, .bool x149002_44, .int .i64 x149003_44, .string x149004_44, .bool t155, .int .i64 t156, .string x149007_1]) ?_ 7 _ rfl; refine blk_put (cs := #[.bool x149000_18, .bool true, .bool x149002_44, .int .i64 x149003_44, .string x149004_44, .bool t155, .int .i64 x149006_1, .string x149007_1]) ?_ 6 _ rfl; refine blk_put (cs := #[.bool x149000_18, .bool true, .bool x149002_44, .int .i64 x149003_44, .string x149004_44, .bool x149005_1, .int .i64 x149006_1, .string x149007_1]) ?_ 5 _ rfl; (with_reducible repeat (first | refine blk_drewN ?_ _ | refine blk_drew ?_ | refine blk_alloc ?_ _)); exact BK148.out⟩, ⟨by repeat (first | (with_reducible first | exact HB.out | apply below_alloc | apply pw_below_drewN | apply below_drew1 | refine below_set ?_ GE145.out | refine below_set ?_ GE146.out | refine below_set ?_ GE147.out | refine below_set ?_ GE148.out | refine below_set ?_ GE149.out) | exact HB.out)⟩⟩
           ·rw [if_neg c69] at H
            have c69b0 : decide (0 < t159) = false := decide_eq_false c69
            clear c69
            have H' := Aside0.mk H
            clear H
            have hnb82 := NB149_145.out
            have hnc82 := NB145_149.out
            have hnb83 := NB149_146.out
            have hnc83 := NB146_149.out
            have hnb84 := NB149_147.out
            have hnc84 := NB147_149.out
            have hnb85 := NB149_148.out
            have hnc85 := NB148_149.out
            obtain ⟨hcz86_0, hcz86_1, hcz86_2, hcz86_3, hcz86_4, hcz86_5, hcz86_6, hcz86_7⟩ := bc8 BK149.out
            obtain ⟨hfz86_0, hfz86_1, hfz86_2, hfz86_3, hfz86_4, hfz86_5, hfz86_6, hfz86_7⟩ := bf8 BK149.out
            have hnb87 := NB148_145.out
            have hnc87 := NB145_148.out
            have hnb88 := NB148_146.out
            have hnc88 := NB146_148.out
            have hnb89 := NB148_147.out
            have hnc89 := NB147_148.out
            obtain ⟨hcz90_0, hcz90_1, hcz90_2, hcz90_3, hcz90_4, hcz90_5, hcz90_6, hcz90_7⟩ := bc8 BK148.out
            obtain ⟨hfz90_0, hfz90_1, hfz90_2, hfz90_3, hfz90_4, hfz90_5, hfz90_6, hfz90_7⟩ := bf8 BK148.out
            go_wp2_with (first | ((with_reducible refine gate_callee (f := 45) rfl ?_); refine goesL_ (some 47) rfl rfl Try.func45 (by kernel_rfl) rfl #[.agg #[.bool t155, .int .i64 t156, .string t157], .agg #[.bool x149005_1, .int .i64 x149006_1, .string x149007_1]] rfl (by (try simp only [List.map_toArray, List.map_cons, List.map_nil]); first | done | rfl | (simp only [List.length_drop, List.length_take]; rfl)) ?_; (with_reducible refine (kinds_Compare_c.calls t155 t156 t157 x149005_1 x149006_1 x149007_1 t159 _ A68.out).mono ?_); rintro e w91 ⟨rfl, hb⟩; refine ⟨_, rfl, ?_⟩; have n0_ := Aside0.mk (blk_below (g := gb145) (o := .cells #[.bool a0_0, .bool a0_1, .bool a0_2, .int .i64 a0_3, .string a0_4, .bool a0_5, .int .i64 a0_6, .string a0_7] 41 (0, 0)) (by (with_reducible repeat (first | refine blk_drewN ?_ _ | refine blk_drew ?_ | refine blk_alloc ?_ _)); exact BK145.out) hb); have n1_ := Aside0.mk (blk_below (g := gb146) (o := .cells #[.bool a1_0, .bool a1_1, .bool a1_2, .int .i64 a1_3, .string a1_4, .bool a1_5, .int .i64 a1_6, .string a1_7] 41 (0, 0)) (by (with_reducible repeat (first | refine blk_drewN ?_ _ | refine blk_drew ?_ | refine blk_alloc ?_ _)); exact BK146.out) hb); have n2_ := Aside0.mk (blk_below (g := gb147) (o := .cells #[.bool false, .bool false, .bool false, .int .i64 0, .string (⟨#[]⟩ : ByteArray), .bool false, .int .i64 0, .string (⟨#[]⟩ : ByteArray)] 41 (0, 0)) (by (with_reducible repeat (first | refine blk_drewN ?_ _ | refine blk_drew ?_ | refine blk_alloc ?_ _)); exact BK147.out) hb); have n3_ := Aside0.mk (blk_below (g := gb148) (o := .cells #[.bool x149000_18, .bool true, .bool x149002_44, .int .i64 x149003_44, .string x149004_44, .bool x149005_1, .int .i64 x149006_1, .string x149007_1] 41 (0, 0)) (by (with_reducible repeat (first | refine blk_drewN ?_ _ | refine blk_drew ?_ | refine blk_alloc ?_ _)); exact BK148.out) hb); have n4_ := Aside0.mk (blk_below (g := gb149) (o := .cells #[.bool t150, .bool t151, .bool t152, .int .i64 t153, .string t154, .bool t155, .int .i64 t156, .string t157] 41 (0, 0)) (by (with_reducible repeat (first | refine blk_drewN ?_ _ | refine blk_drew ?_ | refine blk_alloc ?_ _)); exact BK149.out) hb); have n5_ := Aside0.mk (below_step (by with_reducible repeat first | exact HB.out | apply below_alloc | apply pw_below_drewN | apply below_drew1 | refine below_set ?_ GE145.out | refine below_set ?_ GE146.out | refine below_set ?_ GE147.out | refine below_set ?_ GE148.out | refine below_set ?_ GE149.out) hb); clear BK145; clear BK146; clear BK147; clear BK148; clear BK149; clear HB; have BK145 := n0_; have BK146 := n1_; have BK147 := n2_; have BK148 := n3_; have BK149 := n4_; have HB := n5_; clear n0_ n1_ n2_ n3_ n4_ n5_; (try clear hb); (try clear hb2); (try clear hk); (try clear hi)))
            go_roundg kj44
            case measure => have := HK1.out; have := HJ18.out; have := HJ44.out; omega
            case rel => exact ⟨(wrap64 (x12_1 + 1)), (x149000_18), (true), (x149002_44), (x149003_44), (x149004_44), (x149005_1), (x149006_1), (x149007_1), (by first | rfl | (simp; done) | (simp [*]; done)), H', ⟨by have := HK1.out; have := HJ18.out; have := HJ44.out; omega⟩, ⟨by (with_reducible repeat (first | refine blk_drewN ?_ _ | refine blk_drew ?_ | refine blk_alloc ?_ _)); exact BK145.out⟩, ⟨by (with_reducible repeat (first | refine blk_drewN ?_ _ | refine blk_drew ?_ | refine blk_alloc ?_ _)); exact BK146.out⟩, ⟨by (with_reducible repeat (first | refine blk_drewN ?_ _ | refine blk_drew ?_ | refine blk_alloc ?_ _)); exact BK147.out⟩, ⟨by (with_reducible repeat (first | refine blk_drewN ?_ _ | refine blk_drew ?_ | refine blk_alloc ?_ _)); exact BK148.out⟩, ⟨by repeat (first | (with_reducible first | exact HB.out | apply below_alloc | apply pw_below_drewN | apply below_drew1 | refine below_set ?_ GE145.out | refine below_set ?_ GE146.out | refine below_set ?_ GE147.out | refine below_set ?_ GE148.out | refine below_set ?_ GE149.out) | exact HB.out)⟩⟩
        ·replace c43 := Bool.eq_false_iff.mpr c43
         subst c43
         have H1 : (zone_Join.l0 kj18 (wrap64 (x12_1 + 1)) a0_0 a0_1 a0_2 a0_3 a0_4 a0_5 a0_6 a0_7 a1_0 a1_1 a1_2 a1_3 a1_4 a1_5 a1_6 a1_7 x149000_18 t151 t152 t153 t154 t155 t156 t157) = some (r1, r2, r3, r4, r5, r6, r7, r8) := by rw [if_neg (show ¬ (false = true) by decide)] at H; exact H
         clear H
         have H := H1
         clear H1
         have H' := Aside0.mk H
         clear H
         have hnb92 := NB149_145.out
         have hnc92 := NB145_149.out
         have hnb93 := NB149_146.out
         have hnc93 := NB146_149.out
         have hnb94 := NB149_147.out
         have hnc94 := NB147_149.out
         have hnb95 := NB149_148.out
         have hnc95 := NB148_149.out
         obtain ⟨hcz96_0, hcz96_1, hcz96_2, hcz96_3, hcz96_4, hcz96_5, hcz96_6, hcz96_7⟩ := bc8 BK149.out
         obtain ⟨hfz96_0, hfz96_1, hfz96_2, hfz96_3, hfz96_4, hfz96_5, hfz96_6, hfz96_7⟩ := bf8 BK149.out
         go_wp2_with (first | ((with_reducible refine gate_callee (f := 49) rfl ?_); refine goesL_ (some 26) rfl rfl Try.func49 (by kernel_rfl) rfl #[.agg #[.bool (pick2 x12_1 a0_0 a1_0), .bool (pick2 x12_1 a0_1 a1_1), .bool (pick2 x12_1 a0_2 a1_2), .int .i64 (pick2 x12_1 a0_3 a1_3), .string (pick2 x12_1 a0_4 a1_4), .bool (pick2 x12_1 a0_5 a1_5), .int .i64 (pick2 x12_1 a0_6 a1_6), .string (pick2 x12_1 a0_7 a1_7)]] rfl (by (try simp only [List.map_toArray, List.map_cons, List.map_nil]); first | done | rfl | (simp only [List.length_drop, List.length_take]; rfl) | (simp only [*]; first | done | rfl) | (simp [*]; first | done | rfl)) ?_; (with_reducible refine (zone_ordered_c.calls (pick2 x12_1 a0_0 a1_0) (pick2 x12_1 a0_1 a1_1) (pick2 x12_1 a0_2 a1_2) (pick2 x12_1 a0_3 a1_3) (pick2 x12_1 a0_4 a1_4) (pick2 x12_1 a0_5 a1_5) (pick2 x12_1 a0_6 a1_6) (pick2 x12_1 a0_7 a1_7) t150 t151 t152 t153 t154 t155 t156 t157 _ A42.out).mono ?_); rintro e w97 ⟨rfl, hb⟩; refine ⟨_, rfl, ?_⟩; have n0_ := Aside0.mk (blk_below (g := gb145) (o := .cells #[.bool a0_0, .bool a0_1, .bool a0_2, .int .i64 a0_3, .string a0_4, .bool a0_5, .int .i64 a0_6, .string a0_7] 41 (0, 0)) (by (with_reducible repeat (first | refine blk_drewN ?_ _ | refine blk_drew ?_ | refine blk_alloc ?_ _)); exact BK145.out) hb); have n1_ := Aside0.mk (blk_below (g := gb146) (o := .cells #[.bool a1_0, .bool a1_1, .bool a1_2, .int .i64 a1_3, .string a1_4, .bool a1_5, .int .i64 a1_6, .string a1_7] 41 (0, 0)) (by (with_reducible repeat (first | refine blk_drewN ?_ _ | refine blk_drew ?_ | refine blk_alloc ?_ _)); exact BK146.out) hb); have n2_ := Aside0.mk (blk_below (g := gb147) (o := .cells #[.bool false, .bool false, .bool false, .int .i64 0, .string (⟨#[]⟩ : ByteArray), .bool false, .int .i64 0, .string (⟨#[]⟩ : ByteArray)] 41 (0, 0)) (by (with_reducible repeat (first | refine blk_drewN ?_ _ | refine blk_drew ?_ | refine blk_alloc ?_ _)); exact BK147.out) hb); have n3_ := Aside0.mk (blk_below (g := gb148) (o := .cells #[.bool x149000_18, .bool false, .bool x149002_1, .int .i64 x149003_1, .string x149004_1, .bool x149005_1, .int .i64 x149006_1, .string x149007_1] 41 (0, 0)) (by (with_reducible repeat (first | refine blk_drewN ?_ _ | refine blk_drew ?_ | refine blk_alloc ?_ _)); exact BK148.out) hb); have n4_ := Aside0.mk (blk_below (g := gb149) (o := .cells #[.bool (pick2 x12_1 a0_0 a1_0), .bool (pick2 x12_1 a0_1 a1_1), .bool (pick2 x12_1 a0_2 a1_2), .int .i64 (pick2 x12_1 a0_3 a1_3), .string (pick2 x12_1 a0_4 a1_4), .bool (pick2 x12_1 a0_5 a1_5), .int .i64 (pick2 x12_1 a0_6 a1_6), .string (pick2 x12_1 a0_7 a1_7)] 41 (0, 0)) (by (with_reducible repeat (first | refine blk_drewN ?_ _ | refine blk_drew ?_ | refine blk_alloc ?_ _)); exact BK149.out) hb); have n5_ := Aside0.mk (below_step (by with_reducible repeat first | exact HB.out | apply below_alloc | apply pw_below_drewN | apply below_drew1 | refine below_set ?_ GE145.out | refine below_set ?_ GE146.out | refine below_set ?_ GE147.out | refine below_set ?_ GE148.out | refine below_set ?_ GE149.out) hb); clear BK145; clear BK146; clear BK147; clear BK148; clear BK149; clear HB; have BK145 := n0_; have BK146 := n1_; have BK147 := n2_; have BK148 := n3_; have BK149 := n4_; have HB := n5_; clear n0_ n1_ n2_ n3_ n4_ n5_; (try clear hb); (try clear hb2); (try clear hk); (try clear hi); obtain ⟨hcz98_0, hcz98_1, hcz98_2, hcz98_3, hcz98_4, hcz98_5, hcz98_6, hcz98_7⟩ := bc8 BK149.out; obtain ⟨hfz98_0, hfz98_1, hfz98_2, hfz98_3, hfz98_4, hfz98_5, hfz98_6, hfz98_7⟩ := bf8 BK149.out; have hnb99 := NB148_145.out; have hnc99 := NB145_148.out; have hnb100 := NB148_146.out; have hnc100 := NB146_148.out; have hnb101 := NB148_147.out; have hnc101 := NB147_148.out; obtain ⟨hcz102_0, hcz102_1, hcz102_2, hcz102_3, hcz102_4, hcz102_5, hcz102_6, hcz102_7⟩ := bc8 BK148.out; obtain ⟨hfz102_0, hfz102_1, hfz102_2, hfz102_3, hfz102_4, hfz102_5, hfz102_6, hfz102_7⟩ := bf8 BK148.out))
         go_roundg kj18
         case measure => have := HK1.out; have := HJ18.out; omega
         case rel => exact ⟨(wrap64 (x12_1 + 1)), (x149000_18), (t151), (t152), (t153), (t154), (t155), (t156), (t157), (by first | rfl | (simp; done) | (simp [*]; done)), H', ⟨by have := HK1.out; have := HJ18.out; omega⟩, ⟨by (iterate 8 (refine blk_far ?_ NB145_148.out _)); (iterate 9 (refine blk_far ?_ NB145_149.out _)); (with_reducible repeat (first | refine blk_drewN ?_ _ | refine blk_drew ?_ | refine blk_alloc ?_ _)); exact BK145.out⟩, ⟨by (iterate 8 (refine blk_far ?_ NB146_148.out _)); (iterate 9 (refine blk_far ?_ NB146_149.out _)); (with_reducible repeat (first | refine blk_drewN ?_ _ | refine blk_drew ?_ | refine blk_alloc ?_ _)); exact BK146.out⟩, ⟨by (iterate 8 (refine blk_far ?_ NB147_148.out _)); (iterate 9 (refine blk_far ?_ NB147_149.out _)); (with_reducible repeat (first | refine blk_drewN ?_ _ | refine blk_drew ?_ | refine blk_alloc ?_ _)); exact BK147.out⟩, ⟨by refine blk_put (cs := #[.bool x149000_18, .bool t151, .bool t152, .int .i64 t153, .string t154, .bool t155, .int .i64 t156, .string x149007_1]) ?_ 7 _ rfl; refine blk_put (cs := #[.bool x149000_18, .bool t151, .bool t152, .int .i64 t153, .string t154, .bool t155, .int .i64 x149006_1, .string x149007_1]) ?_ 6 _ rfl; refine blk_put (cs := #[.bool x149000_18, .bool t151, .bool t152, .int .i64 t153, .string t154, .bool x149005_1, .int .i64 x149006_1, .string x149007_1]) ?_ 5 _ rfl; refine blk_put (cs := #[.bool x149000_18, .bool t151, .bool t152, .int .i64 t153, .string x149004_1, .bool x149005_1, .int .i64 x149006_1, .string x149007_1]) ?_ 4 _ rfl; refine blk_put (cs := #[.bool x149000_18, .bool t151, .bool t152, .int .i64 x149003_1, .string x149004_1, .bool x149005_1, .int .i64 x149006_1, .string x149007_1]) ?_ 3 _ rfl; refine blk_put (cs := #[.bool x149000_18, .bool t151, .bool x149002_1, .int .i64 x149003_1, .string x149004_1, .bool x149005_1, .int .i64 x149006_1, .string x149007_1]) ?_ 2 _ rfl; refine blk_put (cs := #[.bool x149000_18, .bool false, .bool x149002_1, .int .i64 x149003_1, .string x149004_1, .bool x149005_1, .int .i64 x149006_1, .string x149007_1]) ?_ 1 _ rfl; refine blk_put (cs := #[.bool x149000_18, .bool false, .bool x149002_1, .int .i64 x149003_1, .string x149004_1, .bool x149005_1, .int .i64 x149006_1, .string x149007_1]) ?_ 0 _ rfl; (iterate 9 (refine blk_far ?_ NB148_149.out _)); (with_reducible repeat (first | refine blk_drewN ?_ _ | refine blk_drew ?_ | refine blk_alloc ?_ _)); exact BK148.out⟩, ⟨by repeat (first | (with_reducible first | exact HB.out | apply below_alloc | apply pw_below_drewN | apply below_drew1 | refine below_set ?_ GE145.out | refine below_set ?_ GE146.out | refine below_set ?_ GE147.out | refine below_set ?_ GE148.out | refine below_set ?_ GE149.out) | exact HB.out)⟩⟩
       ·rw [if_neg c41] at H
        have c41b0 : (pick2 x12_1 a0_1 a1_1) = false := by simpa using c41
        clear c41
        have H' := Aside0.mk H
        clear H
        have hnb103 := NB149_145.out
        have hnc103 := NB145_149.out
        have hnb104 := NB149_146.out
        have hnc104 := NB146_149.out
        have hnb105 := NB149_147.out
        have hnc105 := NB147_149.out
        have hnb106 := NB149_148.out
        have hnc106 := NB148_149.out
        obtain ⟨hcz107_0, hcz107_1, hcz107_2, hcz107_3, hcz107_4, hcz107_5, hcz107_6, hcz107_7⟩ := bc8 BK149.out
        obtain ⟨hfz107_0, hfz107_1, hfz107_2, hfz107_3, hfz107_4, hfz107_5, hfz107_6, hfz107_7⟩ := bf8 BK149.out
        go_wp2
        go_roundg kj18
        case measure => have := HK1.out; have := HJ18.out; omega
        case rel => exact ⟨(wrap64 (x12_1 + 1)), (x149000_18), (x149001_1), (x149002_1), (x149003_1), (x149004_1), (x149005_1), (x149006_1), (x149007_1), (by first | rfl | (simp; done) | (simp [*]; done)), H', ⟨by have := HK1.out; have := HJ18.out; omega⟩, ⟨by (with_reducible repeat (first | refine blk_drewN ?_ _ | refine blk_drew ?_ | refine blk_alloc ?_ _)); exact BK145.out⟩, ⟨by (with_reducible repeat (first | refine blk_drewN ?_ _ | refine blk_drew ?_ | refine blk_alloc ?_ _)); exact BK146.out⟩, ⟨by (with_reducible repeat (first | refine blk_drewN ?_ _ | refine blk_drew ?_ | refine blk_alloc ?_ _)); exact BK147.out⟩, ⟨by (with_reducible repeat (first | refine blk_drewN ?_ _ | refine blk_drew ?_ | refine blk_alloc ?_ _)); exact BK148.out⟩, ⟨by repeat (first | (with_reducible first | exact HB.out | apply below_alloc | apply pw_below_drewN | apply below_drew1 | refine below_set ?_ GE145.out | refine below_set ?_ GE146.out | refine below_set ?_ GE147.out | refine below_set ?_ GE148.out | refine below_set ?_ GE149.out) | exact HB.out)⟩⟩
    ·rw [if_neg c17] at H
     exact absurd H (by simp)
   ·rw [if_neg c16] at H
    have c16b0 : decide (x12_1 < 2) = false := decide_eq_false c16
    clear c16
    simp only [Option.some.injEq, Prod.mk.injEq] at H
    obtain ⟨rfl, rfl, rfl, rfl, rfl, rfl, rfl, rfl⟩ := H
    have hnb108 := NB148_145.out
    have hnc108 := NB145_148.out
    have hnb109 := NB148_146.out
    have hnc109 := NB146_148.out
    have hnb110 := NB148_147.out
    have hnc110 := NB147_148.out
    obtain ⟨hcz111_0, hcz111_1, hcz111_2, hcz111_3, hcz111_4, hcz111_5, hcz111_6, hcz111_7⟩ := bc8 BK148.out
    obtain ⟨hfz111_0, hfz111_1, hfz111_2, hfz111_3, hfz111_4, hfz111_5, hfz111_6, hfz111_7⟩ := bf8 BK148.out
    have hnb112 := NB147_145.out
    have hnc112 := NB145_147.out
    have hnb113 := NB147_146.out
    have hnc113 := NB146_147.out
    obtain ⟨hcz114_0, hcz114_1, hcz114_2, hcz114_3, hcz114_4, hcz114_5, hcz114_6, hcz114_7⟩ := bc8 BK147.out
    obtain ⟨hfz114_0, hfz114_1, hfz114_2, hfz114_3, hfz114_4, hfz114_5, hfz114_6, hfz114_7⟩ := bf8 BK147.out
    go_wp2
    refine bodyPost_ret (results_cell_row rfl _ _ gb147 41 #[.bool x149000_1, .bool x149001_1, .bool x149002_1, .int .i64 x149003_1, .string x149004_1, .bool x149005_1, .int .i64 x149006_1, .string x149007_1] (0, 0) _ rfl (by refine blk_put (cs := #[.bool x149000_1, .bool x149001_1, .bool x149002_1, .int .i64 x149003_1, .string x149004_1, .bool x149005_1, .int .i64 x149006_1, .string (⟨#[]⟩ : ByteArray)]) ?_ 7 _ rfl; refine blk_put (cs := #[.bool x149000_1, .bool x149001_1, .bool x149002_1, .int .i64 x149003_1, .string x149004_1, .bool x149005_1, .int .i64 0, .string (⟨#[]⟩ : ByteArray)]) ?_ 6 _ rfl; refine blk_put (cs := #[.bool x149000_1, .bool x149001_1, .bool x149002_1, .int .i64 x149003_1, .string x149004_1, .bool false, .int .i64 0, .string (⟨#[]⟩ : ByteArray)]) ?_ 5 _ rfl; refine blk_put (cs := #[.bool x149000_1, .bool x149001_1, .bool x149002_1, .int .i64 x149003_1, .string (⟨#[]⟩ : ByteArray), .bool false, .int .i64 0, .string (⟨#[]⟩ : ByteArray)]) ?_ 4 _ rfl; refine blk_put (cs := #[.bool x149000_1, .bool x149001_1, .bool x149002_1, .int .i64 0, .string (⟨#[]⟩ : ByteArray), .bool false, .int .i64 0, .string (⟨#[]⟩ : ByteArray)]) ?_ 3 _ rfl; refine blk_put (cs := #[.bool x149000_1, .bool x149001_1, .bool false, .int .i64 0, .string (⟨#[]⟩ : ByteArray), .bool false, .int .i64 0, .string (⟨#[]⟩ : ByteArray)]) ?_ 2 _ rfl; refine blk_put (cs := #[.bool x149000_1, .bool false, .bool false, .int .i64 0, .string (⟨#[]⟩ : ByteArray), .bool false, .int .i64 0, .string (⟨#[]⟩ : ByteArray)]) ?_ 1 _ rfl; refine blk_put (cs := #[.bool false, .bool false, .bool false, .int .i64 0, .string (⟨#[]⟩ : ByteArray), .bool false, .int .i64 0, .string (⟨#[]⟩ : ByteArray)]) ?_ 0 _ rfl; (with_reducible repeat (first | refine blk_drewN ?_ _ | refine blk_drew ?_ | refine blk_alloc ?_ _)); exact BK147.out) Try.underlying41 rfl (by kernel_rfl)) rfl ?_
    exact ⟨by first | rfl | (simp [errW_none, errW_some] <;> rfl) | (simp [*, errW_none, errW_some] <;> rfl), by repeat (first | (with_reducible first | exact HB.out | apply below_alloc | apply pw_below_drewN | apply below_drew1 | refine below_set ?_ GE145.out | refine below_set ?_ GE146.out | refine below_set ?_ GE147.out | refine below_set ?_ GE148.out) | exact HB.out)⟩
/-! ### zone_Join_c: function 25 -/
--@import Derived.Test.YtnfliommpdjlkaaThy
def stepZ (z x : Zn) : Zn :=
  if x.va = true then
    (if z.va = true then ⟨z.nu || x.nu, true, if lessV (ordV x).lo z.lo then (ordV x).lo else z.lo, if lessV z.hi (ordV x).hi then (ordV x).hi else z.hi⟩
     else ⟨z.nu || x.nu, true, (ordV x).lo, (ordV x).hi⟩)
  else ⟨z.nu || x.nu, z.va, z.lo, z.hi⟩
def joinZ (a b : Zn) : Zn := stepZ (stepZ zeroZ a) b
theorem ordV_va (x : Zn) : (ordV x).va = true := by unfold ordV; split <;> rfl
def zL (k : Nat) (i : Int) (a b z : Zn) : Option (Bool × Bool × Bool × Int × ByteArray × Bool × Int × ByteArray) := zone_Join.l0 k i a.nu a.va a.lo.f0 a.lo.f1 a.lo.f2 a.hi.f0 a.hi.f1 a.hi.f2 b.nu b.va b.lo.f0 b.lo.f1 b.lo.f2 b.hi.f0 b.hi.f1 b.hi.f2 z.nu z.va z.lo.f0 z.lo.f1 z.lo.f2 z.hi.f0 z.hi.f1 z.hi.f2
theorem zL_up {k : Nat} {i : Int} {a b z : Zn} {r : Bool × Bool × Bool × Int × ByteArray × Bool × Int × ByteArray} (h : zL k i a b z = some r) : zL (k + 1) i a b z = some r :=
  (zone_Join.mono_l k).1 _ _ _ _ _ _ _ _ _ _ _ _ _ _ _ _ _ _ _ _ _ _ _ _ _ r h
theorem zone_Join.one (k : Nat) (i j : Int) (a b z x : Zn) (r : Bool × Bool × Bool × Int × ByteArray × Bool × Int × ByteArray) (hi : (if i = 0 then a else b) = x) (h0 : 0 ≤ i) (h2 : i < 2) (hj : wrap64 (i + 1) = j)
    (h : zL k j a b (stepZ z x) = some r) : zL (k + 3) i a b z = some r := by
  have e0 : (pick2 i a.nu b.nu) = x.nu := by rw [← hi]; unfold pick2; split <;> rfl
  have e1 : (pick2 i a.va b.va) = x.va := by rw [← hi]; unfold pick2; split <;> rfl
  have e2 : (pick2 i a.lo.f0 b.lo.f0) = x.lo.f0 := by rw [← hi]; unfold pick2; split <;> rfl
  have e3 : (pick2 i a.lo.f1 b.lo.f1) = x.lo.f1 := by rw [← hi]; unfold pick2; split <;> rfl
  have e4 : (pick2 i a.lo.f2 b.lo.f2) = x.lo.f2 := by rw [← hi]; unfold pick2; split <;> rfl
  have e5 : (pick2 i a.hi.f0 b.hi.f0) = x.hi.f0 := by rw [← hi]; unfold pick2; split <;> rfl
  have e6 : (pick2 i a.hi.f1 b.hi.f1) = x.hi.f1 := by rw [← hi]; unfold pick2; split <;> rfl
  have e7 : (pick2 i a.hi.f2 b.hi.f2) = x.hi.f2 := by rw [← hi]; unfold pick2; split <;> rfl
  unfold zL
  rw [zone_Join.l0, if_pos h2, if_pos h0, e0, e1, e2, e3, e4, e5, e6, e7]
  have hn : (if z.nu = true then zone_Join.j1 (k + 2) i a.nu a.va a.lo.f0 a.lo.f1 a.lo.f2 a.hi.f0 a.hi.f1 a.hi.f2 b.nu b.va b.lo.f0 b.lo.f1 b.lo.f2 b.hi.f0 b.hi.f1 b.hi.f2 true z.va z.lo.f0 z.lo.f1 z.lo.f2 z.hi.f0 z.hi.f1 z.hi.f2 x.nu x.va x.lo.f0 x.lo.f1 x.lo.f2 x.hi.f0 x.hi.f1 x.hi.f2
      else zone_Join.j1 (k + 2) i a.nu a.va a.lo.f0 a.lo.f1 a.lo.f2 a.hi.f0 a.hi.f1 a.hi.f2 b.nu b.va b.lo.f0 b.lo.f1 b.lo.f2 b.hi.f0 b.hi.f1 b.hi.f2 x.nu z.va z.lo.f0 z.lo.f1 z.lo.f2 z.hi.f0 z.hi.f1 z.hi.f2 x.nu x.va x.lo.f0 x.lo.f1 x.lo.f2 x.hi.f0 x.hi.f1 x.hi.f2) =
      zone_Join.j1 (k + 2) i a.nu a.va a.lo.f0 a.lo.f1 a.lo.f2 a.hi.f0 a.hi.f1 a.hi.f2 b.nu b.va b.lo.f0 b.lo.f1 b.lo.f2 b.hi.f0 b.hi.f1 b.hi.f2 (z.nu || x.nu) z.va z.lo.f0 z.lo.f1 z.lo.f2 z.hi.f0 z.hi.f1 z.hi.f2 x.nu x.va x.lo.f0 x.lo.f1 x.lo.f2 x.hi.f0 x.hi.f1 x.hi.f2 := by
    cases z.nu <;> simp
  rw [hn, zone_Join.j1, hj]
  by_cases hx : x.va = true
  · rw [if_pos hx]
    simp only [zone_ordered_c.f, Option.bind_some, Zn.tup]
    by_cases hz : z.va = true
    · rw [if_pos hz]
      have hs : stepZ z x = ⟨z.nu || x.nu, true, if lessV (ordV x).lo z.lo then (ordV x).lo else z.lo, if lessV z.hi (ordV x).hi then (ordV x).hi else z.hi⟩ := by unfold stepZ; rw [if_pos hx, if_pos hz]
      rw [hs] at h
      simp only [kinds_Compare_c.f, Option.bind_some, Thy.cmpV_lt, Thy.cmpV_gt, zone_Join.j2, hj, hz]
      unfold lessV zL at h
      by_cases c1 : Thy.less (ordV x).lo.f0 (ordV x).lo.f1 (ordV x).lo.f2 z.lo.f0 z.lo.f1 z.lo.f2 = true <;>
        by_cases c2 : Thy.less z.hi.f0 z.hi.f1 z.hi.f2 (ordV x).hi.f0 (ordV x).hi.f1 (ordV x).hi.f2 = true <;>
        simp only [c1, c2, if_true, if_false, Bool.false_eq_true] at h ⊢ <;> exact h
    · rw [if_neg hz]
      have hs : stepZ z x = ⟨z.nu || x.nu, true, (ordV x).lo, (ordV x).hi⟩ := by unfold stepZ; rw [if_pos hx, if_neg hz]
      rw [hs] at h
      have := zL_up h
      unfold zL at this
      rw [ordV_va]
      exact this
  · rw [if_neg hx]
    have hs : stepZ z x = ⟨z.nu || x.nu, z.va, z.lo, z.hi⟩ := by unfold stepZ; rw [if_neg hx]
    rw [hs] at h
    exact zL_up h
theorem zone_Join.is (a b : Zn) : zone_Join.f 7 a.nu a.va a.lo.f0 a.lo.f1 a.lo.f2 a.hi.f0 a.hi.f1 a.hi.f2 b.nu b.va b.lo.f0 b.lo.f1 b.lo.f2 b.hi.f0 b.hi.f1 b.hi.f2 = some (joinZ a b).tup := by
  have h : zL 7 0 a b zeroZ = some (joinZ a b).tup := by
    refine zone_Join.one 4 0 1 a b zeroZ a _ (if_pos rfl) (by decide) (by decide) (by unfold wrap64; omega) ?_
    refine zone_Join.one 1 1 2 a b _ b _ (if_neg (by decide)) (by decide) (by decide) (by unfold wrap64; omega) ?_
    unfold zL
    rw [zone_Join.l0, if_neg (by decide)]
    rfl
  exact h
def zone_Join_c.f (a0_0 : Bool) (a0_1 : Bool) (a0_2 : Bool) (a0_3 : Int) (a0_4 : ByteArray) (a0_5 : Bool) (a0_6 : Int) (a0_7 : ByteArray) (a1_0 : Bool) (a1_1 : Bool) (a1_2 : Bool) (a1_3 : Int) (a1_4 : ByteArray) (a1_5 : Bool) (a1_6 : Int) (a1_7 : ByteArray) : Option (Bool × Bool × Bool × Int × ByteArray × Bool × Int × ByteArray) := some (joinZ ⟨a0_0, a0_1, ⟨a0_2, a0_3, a0_4⟩, ⟨a0_5, a0_6, a0_7⟩⟩ ⟨a1_0, a1_1, ⟨a1_2, a1_3, a1_4⟩, ⟨a1_5, a1_6, a1_7⟩⟩).tup
theorem zone_Join_c.calls (a0_0 : Bool) (a0_1 : Bool) (a0_2 : Bool) (a0_3 : Int) (a0_4 : ByteArray) (a0_5 : Bool) (a0_6 : Int) (a0_7 : ByteArray) (a1_0 : Bool) (a1_1 : Bool) (a1_2 : Bool) (a1_3 : Int) (a1_4 : ByteArray) (a1_5 : Bool) (a1_6 : Int) (a1_7 : ByteArray) (r1 : Bool) (r2 : Bool) (r3 : Bool) (r4 : Int) (r5 : ByteArray) (r6 : Bool) (r7 : Int) (r8 : ByteArray) (w : World) (h : zone_Join_c.f a0_0 a0_1 a0_2 a0_3 a0_4 a0_5 a0_6 a0_7 a1_0 a1_1 a1_2 a1_3 a1_4 a1_5 a1_6 a1_7 = some (r1, r2, r3, r4, r5, r6, r7, r8)) :
    Calls Try.prog 25 #[.agg #[.bool a0_0, .bool a0_1, .bool a0_2, .int .i64 a0_3, .string a0_4, .bool a0_5, .int .i64 a0_6, .string a0_7], .agg #[.bool a1_0, .bool a1_1, .bool a1_2, .int .i64 a1_3, .string a1_4, .bool a1_5, .int .i64 a1_6, .string a1_7]] w fun e w' => e = .returned (.agg #[.bool r1, .bool r2, .bool r3, .int .i64 r4, .string r5, .bool r6, .int .i64 r7, .string r8]) ∧ Below w.heap.size w w' :=
  zone_Join.calls 7 a0_0 a0_1 a0_2 a0_3 a0_4 a0_5 a0_6 a0_7 a1_0 a1_1 a1_2 a1_3 a1_4 a1_5 a1_6 a1_7 r1 r2 r3 r4 r5 r6 r7 r8 w ((zone_Join.is ⟨a0_0, a0_1, ⟨a0_2, a0_3, a0_4⟩, ⟨a0_5, a0_6, a0_7⟩⟩ ⟨a1_0, a1_1, ⟨a1_2, a1_3, a1_4⟩, ⟨a1_5, a1_6, a1_7⟩⟩).trans h)


end Go.Proofs.Ytnfliommpdjlkaa.Pr
