-- printed by xprint.py (this seat's own program, over the kit's print.py); not trusted: Lean checks it
import Derived.Test.YtnfliommpdjlkaaPr0
import Derived.Test.YtnfliommpdjlkaaPrf45
import Derived.Test.YtnfliommpdjlkaaPrf46
import Derived.Test.YtnfliommpdjlkaaPrf49
import Derived.Test.YtnfliommpdjlkaaThy
namespace Go.Proofs.Ytnfliommpdjlkaa.Pr
open Go.RowKit Go.Proofs.YtnfliommpdjlkaaW.PrintWords Go.Proofs.YtnfliommpdjlkaaW.PrintLast Go.Proofs.YtnfliommpdjlkaaW.PrintMore
attribute [local go_sem] max2_int min2_int max_two min_two max_three min_three max_four min_four   -- for this text's walks alone
set_option linter.unusedVariables false
set_option linter.unusedSimpArgs false

/-! ### zone_Join: function 25 -/
mutual
def zone_Join.l0 : Nat → Int → Bool → Bool → Bool → Int → ByteArray → Bool → Int → ByteArray → Bool → Bool → Bool → Int → ByteArray → Bool → Int → ByteArray → Bool → Bool → Bool → Int → ByteArray → Bool → Int → ByteArray → Option (Bool × Bool × Bool × Int × ByteArray × Bool × Int × ByteArray)
 | 0, _, _, _, _, _, _, _, _, _, _, _, _, _, _, _, _, _, _, _, _, _, _, _, _, _ => none
 | k + 1, x12, x146000, x146001, x146002, x146003, x146004, x146005, x146006, x146007, x147000, x147001, x147002, x147003, x147004, x147005, x147006, x147007, x149000, x149001, x149002, x149003, x149004, x149005, x149006, x149007 => if x12 < 2 then (if 0 ≤ x12 then (if x149000 = true then (zone_Join.j1 k x12 x146000 x146001 x146002 x146003 x146004 x146005 x146006 x146007 x147000 x147001 x147002 x147003 x147004 x147005 x147006 x147007 true x149001 x149002 x149003 x149004 x149005 x149006 x149007 (pick2 x12 x146000 x147000) (pick2 x12 x146001 x147001) (pick2 x12 x146002 x147002) (pick2 x12 x146003 x147003) (pick2 x12 x146004 x147004) (pick2 x12 x146005 x147005) (pick2 x12 x146006 x147006) (pick2 x12 x146007 x147007)) else (zone_Join.j1 k x12 x146000 x146001 x146002 x146003 x146004 x146005 x146006 x146007 x147000 x147001 x147002 x147003 x147004 x147005 x147006 x147007 (pick2 x12 x146000 x147000) x149001 x149002 x149003 x149004 x149005 x149006 x149007 (pick2 x12 x146000 x147000) (pick2 x12 x146001 x147001) (pick2 x12 x146002 x147002) (pick2 x12 x146003 x147003) (pick2 x12 x146004 x147004) (pick2 x12 x146005 x147005) (pick2 x12 x146006 x147006) (pick2 x12 x146007 x147007))) else (none)) else (some (x149000, x149001, x149002, x149003, x149004, x149005, x149006, x149007))
def zone_Join.j1 : Nat → Int → Bool → Bool → Bool → Int → ByteArray → Bool → Int → ByteArray → Bool → Bool → Bool → Int → ByteArray → Bool → Int → ByteArray → Bool → Bool → Bool → Int → ByteArray → Bool → Int → ByteArray → Bool → Bool → Bool → Int → ByteArray → Bool → Int → ByteArray → Option (Bool × Bool × Bool × Int × ByteArray × Bool × Int × ByteArray)
 | 0, _, _, _, _, _, _, _, _, _, _, _, _, _, _, _, _, _, _, _, _, _, _, _, _, _, _, _, _, _, _, _, _, _ => none
 | k + 1, x12, x146000, x146001, x146002, x146003, x146004, x146005, x146006, x146007, x147000, x147001, x147002, x147003, x147004, x147005, x147006, x147007, x149000, x149001, x149002, x149003, x149004, x149005, x149006, x149007, x150000, x150001, x150002, x150003, x150004, x150005, x150006, x150007 => if x150001 = true then ((zone_ordered_c.f x150000 x150001 x150002 x150003 x150004 x150005 x150006 x150007).bind fun bt150 => (if x149001 = true then ((kinds_Compare_c.f bt150.2.2.1 bt150.2.2.2.1 bt150.2.2.2.2.1 x149002 x149003 x149004).bind fun t158 => (if t158 < 0 then (zone_Join.j2 k x12 x146000 x146001 x146002 x146003 x146004 x146005 x146006 x146007 x147000 x147001 x147002 x147003 x147004 x147005 x147006 x147007 x149000 x149001 bt150.2.2.1 bt150.2.2.2.1 bt150.2.2.2.2.1 x149005 x149006 x149007 bt150.1 bt150.2.1 bt150.2.2.1 bt150.2.2.2.1 bt150.2.2.2.2.1 bt150.2.2.2.2.2.1 bt150.2.2.2.2.2.2.1 bt150.2.2.2.2.2.2.2) else (zone_Join.j2 k x12 x146000 x146001 x146002 x146003 x146004 x146005 x146006 x146007 x147000 x147001 x147002 x147003 x147004 x147005 x147006 x147007 x149000 x149001 x149002 x149003 x149004 x149005 x149006 x149007 bt150.1 bt150.2.1 bt150.2.2.1 bt150.2.2.2.1 bt150.2.2.2.2.1 bt150.2.2.2.2.2.1 bt150.2.2.2.2.2.2.1 bt150.2.2.2.2.2.2.2))) else (zone_Join.l0 k (wrap64 (x12 + 1)) x146000 x146001 x146002 x146003 x146004 x146005 x146006 x146007 x147000 x147001 x147002 x147003 x147004 x147005 x147006 x147007 x149000 bt150.2.1 bt150.2.2.1 bt150.2.2.2.1 bt150.2.2.2.2.1 bt150.2.2.2.2.2.1 bt150.2.2.2.2.2.2.1 bt150.2.2.2.2.2.2.2))) else (zone_Join.l0 k (wrap64 (x12 + 1)) x146000 x146001 x146002 x146003 x146004 x146005 x146006 x146007 x147000 x147001 x147002 x147003 x147004 x147005 x147006 x147007 x149000 x149001 x149002 x149003 x149004 x149005 x149006 x149007)
def zone_Join.j2 : Nat → Int → Bool → Bool → Bool → Int → ByteArray → Bool → Int → ByteArray → Bool → Bool → Bool → Int → ByteArray → Bool → Int → ByteArray → Bool → Bool → Bool → Int → ByteArray → Bool → Int → ByteArray → Bool → Bool → Bool → Int → ByteArray → Bool → Int → ByteArray → Option (Bool × Bool × Bool × Int × ByteArray × Bool × Int × ByteArray)
 | 0, _, _, _, _, _, _, _, _, _, _, _, _, _, _, _, _, _, _, _, _, _, _, _, _, _, _, _, _, _, _, _, _, _ => none
 | k + 1, x12, x146000, x146001, x146002, x146003, x146004, x146005, x146006, x146007, x147000, x147001, x147002, x147003, x147004, x147005, x147006, x147007, x149000, x149001, x149002, x149003, x149004, x149005, x149006, x149007, x150000, x150001, x150002, x150003, x150004, x150005, x150006, x150007 => (kinds_Compare_c.f x150005 x150006 x150007 x149005 x149006 x149007).bind fun t159 => (if t159 > 0 then (zone_Join.l0 k (wrap64 (x12 + 1)) x146000 x146001 x146002 x146003 x146004 x146005 x146006 x146007 x147000 x147001 x147002 x147003 x147004 x147005 x147006 x147007 x149000 x149001 x149002 x149003 x149004 x150005 x150006 x150007) else (zone_Join.l0 k (wrap64 (x12 + 1)) x146000 x146001 x146002 x146003 x146004 x146005 x146006 x146007 x147000 x147001 x147002 x147003 x147004 x147005 x147006 x147007 x149000 x149001 x149002 x149003 x149004 x149005 x149006 x149007))
end
def zone_Join.f (k : Nat) (a0_0 : Bool) (a0_1 : Bool) (a0_2 : Bool) (a0_3 : Int) (a0_4 : ByteArray) (a0_5 : Bool) (a0_6 : Int) (a0_7 : ByteArray) (a1_0 : Bool) (a1_1 : Bool) (a1_2 : Bool) (a1_3 : Int) (a1_4 : ByteArray) (a1_5 : Bool) (a1_6 : Int) (a1_7 : ByteArray) : Option (Bool × Bool × Bool × Int × ByteArray × Bool × Int × ByteArray) := zone_Join.l0 k 0 a0_0 a0_1 a0_2 a0_3 a0_4 a0_5 a0_6 a0_7 a1_0 a1_1 a1_2 a1_3 a1_4 a1_5 a1_6 a1_7 false false false 0 (⟨#[]⟩ : ByteArray) false 0 (⟨#[]⟩ : ByteArray)
theorem zone_Join.mono_l : ∀ k, (∀ y0 y1 y2 y3 y4 y5 y6 y7 y8 y9 y10 y11 y12 y13 y14 y15 y16 y17 y18 y19 y20 y21 y22 y23 y24, LeO (zone_Join.l0 k y0 y1 y2 y3 y4 y5 y6 y7 y8 y9 y10 y11 y12 y13 y14 y15 y16 y17 y18 y19 y20 y21 y22 y23 y24) (zone_Join.l0 (k + 1) y0 y1 y2 y3 y4 y5 y6 y7 y8 y9 y10 y11 y12 y13 y14 y15 y16 y17 y18 y19 y20 y21 y22 y23 y24)) ∧ (∀ y0 y1 y2 y3 y4 y5 y6 y7 y8 y9 y10 y11 y12 y13 y14 y15 y16 y17 y18 y19 y20 y21 y22 y23 y24 y25 y26 y27 y28 y29 y30 y31 y32, LeO (zone_Join.j1 k y0 y1 y2 y3 y4 y5 y6 y7 y8 y9 y10 y11 y12 y13 y14 y15 y16 y17 y18 y19 y20 y21 y22 y23 y24 y25 y26 y27 y28 y29 y30 y31 y32) (zone_Join.j1 (k + 1) y0 y1 y2 y3 y4 y5 y6 y7 y8 y9 y10 y11 y12 y13 y14 y15 y16 y17 y18 y19 y20 y21 y22 y23 y24 y25 y26 y27 y28 y29 y30 y31 y32)) ∧ (∀ y0 y1 y2 y3 y4 y5 y6 y7 y8 y9 y10 y11 y12 y13 y14 y15 y16 y17 y18 y19 y20 y21 y22 y23 y24 y25 y26 y27 y28 y29 y30 y31 y32, LeO (zone_Join.j2 k y0 y1 y2 y3 y4 y5 y6 y7 y8 y9 y10 y11 y12 y13 y14 y15 y16 y17 y18 y19 y20 y21 y22 y23 y24 y25 y26 y27 y28 y29 y30 y31 y32) (zone_Join.j2 (k + 1) y0 y1 y2 y3 y4 y5 y6 y7 y8 y9 y10 y11 y12 y13 y14 y15 y16 y17 y18 y19 y20 y21 y22 y23 y24 y25 y26 y27 y28 y29 y30 y31 y32))
 | 0 => ⟨fun _ _ _ _ _ _ _ _ _ _ _ _ _ _ _ _ _ _ _ _ _ _ _ _ _ r h => by simp [zone_Join.l0] at h, fun _ _ _ _ _ _ _ _ _ _ _ _ _ _ _ _ _ _ _ _ _ _ _ _ _ _ _ _ _ _ _ _ _ r h => by simp [zone_Join.j1] at h, fun _ _ _ _ _ _ _ _ _ _ _ _ _ _ _ _ _ _ _ _ _ _ _ _ _ _ _ _ _ _ _ _ _ r h => by simp [zone_Join.j2] at h⟩
 | k + 1 => by
  obtain ⟨ih0, ih1, ih2⟩ := zone_Join.mono_l k
  refine ⟨?_, ?_, ?_⟩
  ·intro y0 y1 y2 y3 y4 y5 y6 y7 y8 y9 y10 y11 y12 y13 y14 y15 y16 y17 y18 y19 y20 y21 y22 y23 y24
   unfold zone_Join.l0
   repeat' first
   | (with_reducible exact ih0 _ _ _ _ _ _ _ _ _ _ _ _ _ _ _ _ _ _ _ _ _ _ _ _ _)
   | (with_reducible exact ih1 _ _ _ _ _ _ _ _ _ _ _ _ _ _ _ _ _ _ _ _ _ _ _ _ _ _ _ _ _ _ _ _ _)
   | (with_reducible exact ih2 _ _ _ _ _ _ _ _ _ _ _ _ _ _ _ _ _ _ _ _ _ _ _ _ _ _ _ _ _ _ _ _ _)
   | (with_reducible exact LeO.refl _)
   | (with_reducible exact LeO.none _)
   | (with_reducible refine LeO.ite ?_ ?_)
   | (with_reducible refine LeO.bind ?_ (fun _ => ?_))
   | exact ih0 _ _ _ _ _ _ _ _ _ _ _ _ _ _ _ _ _ _ _ _ _ _ _ _ _
   | exact ih1 _ _ _ _ _ _ _ _ _ _ _ _ _ _ _ _ _ _ _ _ _ _ _ _ _ _ _ _ _ _ _ _ _
   | exact ih2 _ _ _ _ _ _ _ _ _ _ _ _ _ _ _ _ _ _ _ _ _ _ _ _ _ _ _ _ _ _ _ _ _
   | exact LeO.none _
   | refine LeO.ite ?_ ?_
   | refine LeO.bind ?_ (fun _ => ?_)
  ·intro y0 y1 y2 y3 y4 y5 y6 y7 y8 y9 y10 y11 y12 y13 y14 y15 y16 y17 y18 y19 y20 y21 y22 y23 y24 y25 y26 y27 y28 y29 y30 y31 y32
   unfold zone_Join.j1
   repeat' first
   | (with_reducible exact ih0 _ _ _ _ _ _ _ _ _ _ _ _ _ _ _ _ _ _ _ _ _ _ _ _ _)
   | (with_reducible exact ih1 _ _ _ _ _ _ _ _ _ _ _ _ _ _ _ _ _ _ _ _ _ _ _ _ _ _ _ _ _ _ _ _ _)
   | (with_reducible exact ih2 _ _ _ _ _ _ _ _ _ _ _ _ _ _ _ _ _ _ _ _ _ _ _ _ _ _ _ _ _ _ _ _ _)
   | (with_reducible exact LeO.refl _)
   | (with_reducible exact LeO.none _)
   | (with_reducible refine LeO.ite ?_ ?_)
   | (with_reducible refine LeO.bind ?_ (fun _ => ?_))
   | exact ih0 _ _ _ _ _ _ _ _ _ _ _ _ _ _ _ _ _ _ _ _ _ _ _ _ _
   | exact ih1 _ _ _ _ _ _ _ _ _ _ _ _ _ _ _ _ _ _ _ _ _ _ _ _ _ _ _ _ _ _ _ _ _
   | exact ih2 _ _ _ _ _ _ _ _ _ _ _ _ _ _ _ _ _ _ _ _ _ _ _ _ _ _ _ _ _ _ _ _ _
   | exact LeO.none _
   | refine LeO.ite ?_ ?_
   | refine LeO.bind ?_ (fun _ => ?_)
  ·intro y0 y1 y2 y3 y4 y5 y6 y7 y8 y9 y10 y11 y12 y13 y14 y15 y16 y17 y18 y19 y20 y21 y22 y23 y24 y25 y26 y27 y28 y29 y30 y31 y32
   unfold zone_Join.j2
   repeat' first
   | (with_reducible exact ih0 _ _ _ _ _ _ _ _ _ _ _ _ _ _ _ _ _ _ _ _ _ _ _ _ _)
   | (with_reducible exact ih1 _ _ _ _ _ _ _ _ _ _ _ _ _ _ _ _ _ _ _ _ _ _ _ _ _ _ _ _ _ _ _ _ _)
   | (with_reducible exact ih2 _ _ _ _ _ _ _ _ _ _ _ _ _ _ _ _ _ _ _ _ _ _ _ _ _ _ _ _ _ _ _ _ _)
   | (with_reducible exact LeO.refl _)
   | (with_reducible exact LeO.none _)
   | (with_reducible refine LeO.ite ?_ ?_)
   | (with_reducible refine LeO.bind ?_ (fun _ => ?_))
   | exact ih0 _ _ _ _ _ _ _ _ _ _ _ _ _ _ _ _ _ _ _ _ _ _ _ _ _
   | exact ih1 _ _ _ _ _ _ _ _ _ _ _ _ _ _ _ _ _ _ _ _ _ _ _ _ _ _ _ _ _ _ _ _ _
   | exact ih2 _ _ _ _ _ _ _ _ _ _ _ _ _ _ _ _ _ _ _ _ _ _ _ _ _ _ _ _ _ _ _ _ _
   | exact LeO.none _
   | refine LeO.ite ?_ ?_
   | refine LeO.bind ?_ (fun _ => ?_)
theorem zone_Join.mono : ∀ a0 a1 a2 a3 a4 a5 a6 a7 a8 a9 a10 a11 a12 a13 a14 a15 k, LeO (zone_Join.f k a0 a1 a2 a3 a4 a5 a6 a7 a8 a9 a10 a11 a12 a13 a14 a15) (zone_Join.f (k + 1) a0 a1 a2 a3 a4 a5 a6 a7 a8 a9 a10 a11 a12 a13 a14 a15) := by
 intro a0 a1 a2 a3 a4 a5 a6 a7 a8 a9 a10 a11 a12 a13 a14 a15 k
 obtain ⟨ih0, ih1, ih2⟩ := zone_Join.mono_l k
 unfold zone_Join.f
 repeat' first
   | (with_reducible exact ih0 _ _ _ _ _ _ _ _ _ _ _ _ _ _ _ _ _ _ _ _ _ _ _ _ _)
   | (with_reducible exact ih1 _ _ _ _ _ _ _ _ _ _ _ _ _ _ _ _ _ _ _ _ _ _ _ _ _ _ _ _ _ _ _ _ _)
   | (with_reducible exact ih2 _ _ _ _ _ _ _ _ _ _ _ _ _ _ _ _ _ _ _ _ _ _ _ _ _ _ _ _ _ _ _ _ _)
   | (with_reducible exact LeO.refl _)
   | (with_reducible exact LeO.none _)
   | (with_reducible refine LeO.ite ?_ ?_)
   | (with_reducible refine LeO.bind ?_ (fun _ => ?_))
   | exact ih0 _ _ _ _ _ _ _ _ _ _ _ _ _ _ _ _ _ _ _ _ _ _ _ _ _
   | exact ih1 _ _ _ _ _ _ _ _ _ _ _ _ _ _ _ _ _ _ _ _ _ _ _ _ _ _ _ _ _ _ _ _ _
   | exact ih2 _ _ _ _ _ _ _ _ _ _ _ _ _ _ _ _ _ _ _ _ _ _ _ _ _ _ _ _ _ _ _ _ _
   | exact LeO.none _
   | refine LeO.ite ?_ ?_
   | refine LeO.bind ?_ (fun _ => ?_)
set_option maxHeartbeats 8000000 in
set_option maxRecDepth 100000 in
theorem zone_Join.calls (k : Nat) (a0_0 : Bool) (a0_1 : Bool) (a0_2 : Bool) (a0_3 : Int) (a0_4 : ByteArray) (a0_5 : Bool) (a0_6 : Int) (a0_7 : ByteArray) (a1_0 : Bool) (a1_1 : Bool) (a1_2 : Bool) (a1_3 : Int) (a1_4 : ByteArray) (a1_5 : Bool) (a1_6 : Int) (a1_7 : ByteArray) (r1 : Bool) (r2 : Bool) (r3 : Bool) (r4 : Int) (r5 : ByteArray) (r6 : Bool) (r7 : Int) (r8 : ByteArray) (w : World) (h : zone_Join.f k a0_0 a0_1 a0_2 a0_3 a0_4 a0_5 a0_6 a0_7 a1_0 a1_1 a1_2 a1_3 a1_4 a1_5 a1_6 a1_7 = some (r1, r2, r3, r4, r5, r6, r7, r8)) :
  Calls Try.prog 25 #[.agg #[.bool a0_0, .bool a0_1, .bool a0_2, .int .i64 a0_3, .string a0_4, .bool a0_5, .int .i64 a0_6, .string a0_7], .agg #[.bool a1_0, .bool a1_1, .bool a1_2, .int .i64 a1_3, .string a1_4, .bool a1_5, .int .i64 a1_6, .string a1_7]] w fun e w' => e = .returned (.agg #[.bool r1, .bool r2, .bool r3, .int .i64 r4, .string r5, .bool r6, .int .i64 r7, .string r8]) ∧ Below w.heap.size w w' := by
 have hu41 := Try.underlying41
 have hu81 := Try.underlying81
 have hu27 := Try.underlying27
 have HB := Aside0.mk (Below.refl w.heap.size w)
 have H : (zone_Join.l0 k 0 a0_0 a0_1 a0_2 a0_3 a0_4 a0_5 a0_6 a0_7 a1_0 a1_1 a1_2 a1_3 a1_4 a1_5 a1_6 a1_7 false false false 0 (⟨#[]⟩ : ByteArray) false 0 (⟨#[]⟩ : ByteArray)) = some (r1, r2, r3, r4, r5, r6, r7, r8) := h
 clear h
 have H' := Aside0.mk H
 clear H
 go_enter Try.func25, Try.ntmps25
 go_wp2_with (first | ((with_reducible refine gate_dst (N := 2) rfl ?_); refine box_event ?hg (N := 2) ?hd (cs := #[.bool a0_0, .bool a0_1, .bool a0_2, .int .i64 a0_3, .string a0_4, .bool a0_5, .int .i64 a0_6, .string a0_7]) (t := 41) ?hr ?_; (case hd => rfl); (case hg => rfl); (case hr => first | (go_simp; done) | (go_simp; rfl)); intro gb145 hg w3 hbox hb; have n0_ := Aside0.mk (below_step (by repeat (first | (with_reducible first | exact HB.out | apply below_alloc | apply pw_below_drewN | apply below_drew1) | exact HB.out)) hb); have n1_ := Aside0.mk (hbox); have n2_ := Aside0.mk ((by rw [hg]; exact (below_size (by repeat (first | (with_reducible first | exact HB.out | apply below_alloc | apply pw_below_drewN | apply below_drew1) | exact HB.out))) : w.heap.size ≤ gb145)); have n3_ := Aside0.mk ((by rw [hg]; exact (below_size (by repeat (first | (with_reducible first | exact HB.out | apply below_alloc | apply pw_below_drewN | apply below_drew1) | exact HB.out))) : w.heap.size ≤ gb145)); clear HB; have HB := n0_; have BK145 := n1_; have GW145 := n2_; have GE145 := n3_; clear n0_ n1_ n2_ n3_; clear hb hbox hg) | ((with_reducible refine gate_dst (N := 3) rfl ?_); refine box_event ?hg (N := 3) ?hd (cs := #[.bool a1_0, .bool a1_1, .bool a1_2, .int .i64 a1_3, .string a1_4, .bool a1_5, .int .i64 a1_6, .string a1_7]) (t := 41) ?hr ?_; (case hd => rfl); (case hg => rfl); (case hr => first | (go_simp; done) | (go_simp; rfl)); intro gb146 hg w4 hbox hb; have n0_ := Aside0.mk (blk_below (g := gb145) (o := .cells #[.bool a0_0, .bool a0_1, .bool a0_2, .int .i64 a0_3, .string a0_4, .bool a0_5, .int .i64 a0_6, .string a0_7] 41 (0, 0)) (by (with_reducible repeat (first | refine blk_drewN ?_ _ | refine blk_drew ?_ | refine blk_alloc ?_ _)); exact BK145.out) hb); have n1_ := Aside0.mk (below_step (by repeat (first | (with_reducible first | exact HB.out | apply below_alloc | apply pw_below_drewN | apply below_drew1 | refine below_set ?_ GE145.out) | exact HB.out)) hb); have n2_ := Aside0.mk (hbox); have n3_ := Aside0.mk ((by rw [hg]; exact (below_size (by repeat (first | (with_reducible first | exact HB.out | apply below_alloc | apply pw_below_drewN | apply below_drew1 | refine below_set ?_ GE145.out) | exact HB.out))) : w.heap.size ≤ gb146)); have n4_ := Aside0.mk ((by rw [hg]; exact (below_size (by repeat (first | (with_reducible first | exact HB.out | apply below_alloc | apply pw_below_drewN | apply below_drew1 | refine below_set ?_ GE145.out) | exact HB.out))) : w.heap.size ≤ gb146)); have n5_ := Aside0.mk ((by rw [hg]; exact Nat.ne_of_lt (blk_lt (g := gb145) (o := .cells #[.bool a0_0, .bool a0_1, .bool a0_2, .int .i64 a0_3, .string a0_4, .bool a0_5, .int .i64 a0_6, .string a0_7] 41 (0, 0)) (by (with_reducible repeat (first | refine blk_drewN ?_ _ | refine blk_drew ?_ | refine blk_alloc ?_ _)); exact BK145.out)) : gb145 ≠ gb146)); have n6_ := Aside0.mk ((by rw [hg]; exact Nat.ne_of_gt (blk_lt (g := gb145) (o := .cells #[.bool a0_0, .bool a0_1, .bool a0_2, .int .i64 a0_3, .string a0_4, .bool a0_5, .int .i64 a0_6, .string a0_7] 41 (0, 0)) (by (with_reducible repeat (first | refine blk_drewN ?_ _ | refine blk_drew ?_ | refine blk_alloc ?_ _)); exact BK145.out)) : gb146 ≠ gb145)); clear BK145; clear HB; have BK145 := n0_; have HB := n1_; have BK146 := n2_; have GW146 := n3_; have GE146 := n4_; have NB145_146 := n5_; have NB146_145 := n6_; clear n0_ n1_ n2_ n3_ n4_ n5_ n6_; clear hb hbox hg) | ((with_reducible refine gate_dst (N := 4) rfl ?_); refine box_event ?hg (N := 4) ?hd (cs := #[.bool false, .bool false, .bool false, .int .i64 0, .string (⟨#[]⟩ : ByteArray), .bool false, .int .i64 0, .string (⟨#[]⟩ : ByteArray)]) (t := 41) ?hr ?_; (case hd => rfl); (case hg => rfl); (case hr => first | (go_simp; done) | (go_simp; rfl)); intro gb147 hg w5 hbox hb; have n0_ := Aside0.mk (blk_below (g := gb145) (o := .cells #[.bool a0_0, .bool a0_1, .bool a0_2, .int .i64 a0_3, .string a0_4, .bool a0_5, .int .i64 a0_6, .string a0_7] 41 (0, 0)) (by (with_reducible repeat (first | refine blk_drewN ?_ _ | refine blk_drew ?_ | refine blk_alloc ?_ _)); exact BK145.out) hb); have n1_ := Aside0.mk (blk_below (g := gb146) (o := .cells #[.bool a1_0, .bool a1_1, .bool a1_2, .int .i64 a1_3, .string a1_4, .bool a1_5, .int .i64 a1_6, .string a1_7] 41 (0, 0)) (by (with_reducible repeat (first | refine blk_drewN ?_ _ | refine blk_drew ?_ | refine blk_alloc ?_ _)); exact BK146.out) hb); have n2_ := Aside0.mk (below_step (by repeat (first | (with_reducible first | exact HB.out | apply below_alloc | apply pw_below_drewN | apply below_drew1 | refine below_set ?_ GE145.out | refine below_set ?_ GE146.out) | exact HB.out)) hb); have n3_ := Aside0.mk (hbox); have n4_ := Aside0.mk ((by rw [hg]; exact (below_size (by repeat (first | (with_reducible first | exact HB.out | apply below_alloc | apply pw_below_drewN | apply below_drew1 | refine below_set ?_ GE145.out | refine below_set ?_ GE146.out) | exact HB.out))) : w.heap.size ≤ gb147)); have n5_ := Aside0.mk ((by rw [hg]; exact (below_size (by repeat (first | (with_reducible first | exact HB.out | apply below_alloc | apply pw_below_drewN | apply below_drew1 | refine below_set ?_ GE145.out | refine below_set ?_ GE146.out) | exact HB.out))) : w.heap.size ≤ gb147)); have n6_ := Aside0.mk ((by rw [hg]; exact Nat.ne_of_lt (blk_lt (g := gb145) (o := .cells #[.bool a0_0, .bool a0_1, .bool a0_2, .int .i64 a0_3, .string a0_4, .bool a0_5, .int .i64 a0_6, .string a0_7] 41 (0, 0)) (by (with_reducible repeat (first | refine blk_drewN ?_ _ | refine blk_drew ?_ | refine blk_alloc ?_ _)); exact BK145.out)) : gb145 ≠ gb147)); have n7_ := Aside0.mk ((by rw [hg]; exact Nat.ne_of_gt (blk_lt (g := gb145) (o := .cells #[.bool a0_0, .bool a0_1, .bool a0_2, .int .i64 a0_3, .string a0_4, .bool a0_5, .int .i64 a0_6, .string a0_7] 41 (0, 0)) (by (with_reducible repeat (first | refine blk_drewN ?_ _ | refine blk_drew ?_ | refine blk_alloc ?_ _)); exact BK145.out)) : gb147 ≠ gb145)); have n8_ := Aside0.mk ((by rw [hg]; exact Nat.ne_of_lt (blk_lt (g := gb146) (o := .cells #[.bool a1_0, .bool a1_1, .bool a1_2, .int .i64 a1_3, .string a1_4, .bool a1_5, .int .i64 a1_6, .string a1_7] 41 (0, 0)) (by (with_reducible repeat (first | refine blk_drewN ?_ _ | refine blk_drew ?_ | refine blk_alloc ?_ _)); exact BK146.out)) : gb146 ≠ gb147)); have n9_ := Aside0.mk ((by rw [hg]; exact Nat.ne_of_gt (blk_lt (g := gb146) (o := .cells #[.bool a1_0, .bool a1_1, .bool a1_2, .int .i64 a1_3, .string a1_4, .bool a1_5, .int .i64 a1_6, .string a1_7] 41 (0, 0)) (by (with_reducible repeat (first | refine blk_drewN ?_ _ | refine blk_drew ?_ | refine blk_alloc ?_ _)); exact BK146.out)) : gb147 ≠ gb146)); clear BK145; clear BK146; clear HB; have BK145 := n0_; have BK146 := n1_; have HB := n2_; have BK147 := n3_; have GW147 := n4_; have GE147 := n5_; have NB145_147 := n6_; have NB147_145 := n7_; have NB146_147 := n8_; have NB147_146 := n9_; clear n0_ n1_ n2_ n3_ n4_ n5_ n6_ n7_ n8_ n9_; clear hb hbox hg) | ((with_reducible refine gate_dst (N := 5) rfl ?_); refine box_event ?hg (N := 5) ?hd (cs := #[.bool false, .bool false, .bool false, .int .i64 0, .string (⟨#[]⟩ : ByteArray), .bool false, .int .i64 0, .string (⟨#[]⟩ : ByteArray)]) (t := 41) ?hr ?_; (case hd => rfl); (case hg => rfl); (case hr => first | (go_simp; done) | (go_simp; rfl)); intro gb148 hg w6 hbox hb; have n0_ := Aside0.mk (blk_below (g := gb145) (o := .cells #[.bool a0_0, .bool a0_1, .bool a0_2, .int .i64 a0_3, .string a0_4, .bool a0_5, .int .i64 a0_6, .string a0_7] 41 (0, 0)) (by (with_reducible repeat (first | refine blk_drewN ?_ _ | refine blk_drew ?_ | refine blk_alloc ?_ _)); exact BK145.out) hb); have n1_ := Aside0.mk (blk_below (g := gb146) (o := .cells #[.bool a1_0, .bool a1_1, .bool a1_2, .int .i64 a1_3, .string a1_4, .bool a1_5, .int .i64 a1_6, .string a1_7] 41 (0, 0)) (by (with_reducible repeat (first | refine blk_drewN ?_ _ | refine blk_drew ?_ | refine blk_alloc ?_ _)); exact BK146.out) hb); have n2_ := Aside0.mk (blk_below (g := gb147) (o := .cells #[.bool false, .bool false, .bool false, .int .i64 0, .string (⟨#[]⟩ : ByteArray), .bool false, .int .i64 0, .string (⟨#[]⟩ : ByteArray)] 41 (0, 0)) (by (with_reducible repeat (first | refine blk_drewN ?_ _ | refine blk_drew ?_ | refine blk_alloc ?_ _)); exact BK147.out) hb); have n3_ := Aside0.mk (below_step (by repeat (first | (with_reducible first | exact HB.out | apply below_alloc | apply pw_below_drewN | apply below_drew1 | refine below_set ?_ GE145.out | refine below_set ?_ GE146.out | refine below_set ?_ GE147.out) | exact HB.out)) hb); have n4_ := Aside0.mk (hbox); have n5_ := Aside0.mk ((by rw [hg]; exact (below_size (by repeat (first | (with_reducible first | exact HB.out | apply below_alloc | apply pw_below_drewN | apply below_drew1 | refine below_set ?_ GE145.out | refine below_set ?_ GE146.out | refine below_set ?_ GE147.out) | exact HB.out))) : w.heap.size ≤ gb148)); have n6_ := Aside0.mk ((by rw [hg]; exact (below_size (by repeat (first | (with_reducible first | exact HB.out | apply below_alloc | apply pw_below_drewN | apply below_drew1 | refine below_set ?_ GE145.out | refine below_set ?_ GE146.out | refine below_set ?_ GE147.out) | exact HB.out))) : w.heap.size ≤ gb148)); have n7_ := Aside0.mk ((by rw [hg]; exact Nat.ne_of_lt (blk_lt (g := gb145) (o := .cells #[.bool a0_0, .bool a0_1, .bool a0_2, .int .i64 a0_3, .string a0_4, .bool a0_5, .int .i64 a0_6, .string a0_7] 41 (0, 0)) (by (with_reducible repeat (first | refine blk_drewN ?_ _ | refine blk_drew ?_ | refine blk_alloc ?_ _)); exact BK145.out)) : gb145 ≠ gb148)); have n8_ := Aside0.mk ((by rw [hg]; exact Nat.ne_of_gt (blk_lt (g := gb145) (o := .cells #[.bool a0_0, .bool a0_1, .bool a0_2, .int .i64 a0_3, .string a0_4, .bool a0_5, .int .i64 a0_6, .string a0_7] 41 (0, 0)) (by (with_reducible repeat (first | refine blk_drewN ?_ _ | refine blk_drew ?_ | refine blk_alloc ?_ _)); exact BK145.out)) : gb148 ≠ gb145)); have n9_ := Aside0.mk ((by rw [hg]; exact Nat.ne_of_lt (blk_lt (g := gb146) (o := .cells #[.bool a1_0, .bool a1_1, .bool a1_2, .int .i64 a1_3, .string a1_4, .bool a1_5, .int .i64 a1_6, .string a1_7] 41 (0, 0)) (by (with_reducible repeat (first | refine blk_drewN ?_ _ | refine blk_drew ?_ | refine blk_alloc ?_ _)); exact BK146.out)) : gb146 ≠ gb148)); have n10_ := Aside0.mk ((by rw [hg]; exact Nat.ne_of_gt (blk_lt (g := gb146) (o := .cells #[.bool a1_0, .bool a1_1, .bool a1_2, .int .i64 a1_3, .string a1_4, .bool a1_5, .int .i64 a1_6, .string a1_7] 41 (0, 0)) (by (with_reducible repeat (first | refine blk_drewN ?_ _ | refine blk_drew ?_ | refine blk_alloc ?_ _)); exact BK146.out)) : gb148 ≠ gb146)); have n11_ := Aside0.mk ((by rw [hg]; exact Nat.ne_of_lt (blk_lt (g := gb147) (o := .cells #[.bool false, .bool false, .bool false, .int .i64 0, .string (⟨#[]⟩ : ByteArray), .bool false, .int .i64 0, .string (⟨#[]⟩ : ByteArray)] 41 (0, 0)) (by (with_reducible repeat (first | refine blk_drewN ?_ _ | refine blk_drew ?_ | refine blk_alloc ?_ _)); exact BK147.out)) : gb147 ≠ gb148)); have n12_ := Aside0.mk ((by rw [hg]; exact Nat.ne_of_gt (blk_lt (g := gb147) (o := .cells #[.bool false, .bool false, .bool false, .int .i64 0, .string (⟨#[]⟩ : ByteArray), .bool false, .int .i64 0, .string (⟨#[]⟩ : ByteArray)] 41 (0, 0)) (by (with_reducible repeat (first | refine blk_drewN ?_ _ | refine blk_drew ?_ | refine blk_alloc ?_ _)); exact BK147.out)) : gb148 ≠ gb147)); clear BK145; clear BK146; clear BK147; clear HB; have BK145 := n0_; have BK146 := n1_; have BK147 := n2_; have HB := n3_; have BK148 := n4_; have GW148 := n5_; have GE148 := n6_; have NB145_148 := n7_; have NB148_145 := n8_; have NB146_148 := n9_; have NB148_146 := n10_; have NB147_148 := n11_; have NB148_147 := n12_; clear n0_ n1_ n2_ n3_ n4_ n5_ n6_ n7_ n8_ n9_ n10_ n11_ n12_; clear hb hbox hg; have hnb7 := NB148_145.out; have hnc7 := NB145_148.out; have hnb8 := NB148_146.out; have hnc8 := NB146_148.out; have hnb9 := NB148_147.out; have hnc9 := NB147_148.out; have hcz10_0 : w6.cell? ⟨gb148, 0, none⟩ = some (.bool false) := (blk_cell BK148.out 0).trans rfl; have hcz10_1 : w6.cell? ⟨gb148, 1, none⟩ = some (.bool false) := (blk_cell BK148.out 1).trans rfl; have hcz10_2 : w6.cell? ⟨gb148, 2, none⟩ = some (.bool false) := (blk_cell BK148.out 2).trans rfl; have hcz10_3 : w6.cell? ⟨gb148, 3, none⟩ = some (.int .i64 0) := (blk_cell BK148.out 3).trans rfl; have hcz10_4 : w6.cell? ⟨gb148, 4, none⟩ = some (.string (⟨#[]⟩ : ByteArray)) := (blk_cell BK148.out 4).trans rfl; have hcz10_5 : w6.cell? ⟨gb148, 5, none⟩ = some (.bool false) := (blk_cell BK148.out 5).trans rfl; have hcz10_6 : w6.cell? ⟨gb148, 6, none⟩ = some (.int .i64 0) := (blk_cell BK148.out 6).trans rfl; have hcz10_7 : w6.cell? ⟨gb148, 7, none⟩ = some (.string (⟨#[]⟩ : ByteArray)) := (blk_cell BK148.out 7).trans rfl; have hfz10_0 := blk_frozen BK148.out 0; have hfz10_1 := blk_frozen BK148.out 1; have hfz10_2 := blk_frozen BK148.out 2; have hfz10_3 := blk_frozen BK148.out 3; have hfz10_4 := blk_frozen BK148.out 4; have hfz10_5 := blk_frozen BK148.out 5; have hfz10_6 := blk_frozen BK148.out 6; have hfz10_7 := blk_frozen BK148.out 7; have hnb11 := NB145_146.out; have hnc11 := NB146_145.out; have hnb12 := NB145_147.out; have hnc12 := NB147_145.out; have hcz13_0 : w6.cell? ⟨gb145, 0, none⟩ = some (.bool a0_0) := (blk_cell BK145.out 0).trans rfl; have hcz13_1 : w6.cell? ⟨gb145, 1, none⟩ = some (.bool a0_1) := (blk_cell BK145.out 1).trans rfl; have hcz13_2 : w6.cell? ⟨gb145, 2, none⟩ = some (.bool a0_2) := (blk_cell BK145.out 2).trans rfl; have hcz13_3 : w6.cell? ⟨gb145, 3, none⟩ = some (.int .i64 a0_3) := (blk_cell BK145.out 3).trans rfl; have hcz13_4 : w6.cell? ⟨gb145, 4, none⟩ = some (.string a0_4) := (blk_cell BK145.out 4).trans rfl; have hcz13_5 : w6.cell? ⟨gb145, 5, none⟩ = some (.bool a0_5) := (blk_cell BK145.out 5).trans rfl; have hcz13_6 : w6.cell? ⟨gb145, 6, none⟩ = some (.int .i64 a0_6) := (blk_cell BK145.out 6).trans rfl; have hcz13_7 : w6.cell? ⟨gb145, 7, none⟩ = some (.string a0_7) := (blk_cell BK145.out 7).trans rfl; have hfz13_0 := blk_frozen BK145.out 0; have hfz13_1 := blk_frozen BK145.out 1; have hfz13_2 := blk_frozen BK145.out 2; have hfz13_3 := blk_frozen BK145.out 3; have hfz13_4 := blk_frozen BK145.out 4; have hfz13_5 := blk_frozen BK145.out 5; have hfz13_6 := blk_frozen BK145.out 6; have hfz13_7 := blk_frozen BK145.out 7; have hnb14 := NB146_147.out; have hnc14 := NB147_146.out; have hcz15_0 : w6.cell? ⟨gb146, 0, none⟩ = some (.bool a1_0) := (blk_cell BK146.out 0).trans rfl; have hcz15_1 : w6.cell? ⟨gb146, 1, none⟩ = some (.bool a1_1) := (blk_cell BK146.out 1).trans rfl; have hcz15_2 : w6.cell? ⟨gb146, 2, none⟩ = some (.bool a1_2) := (blk_cell BK146.out 2).trans rfl; have hcz15_3 : w6.cell? ⟨gb146, 3, none⟩ = some (.int .i64 a1_3) := (blk_cell BK146.out 3).trans rfl; have hcz15_4 : w6.cell? ⟨gb146, 4, none⟩ = some (.string a1_4) := (blk_cell BK146.out 4).trans rfl; have hcz15_5 : w6.cell? ⟨gb146, 5, none⟩ = some (.bool a1_5) := (blk_cell BK146.out 5).trans rfl; have hcz15_6 : w6.cell? ⟨gb146, 6, none⟩ = some (.int .i64 a1_6) := (blk_cell BK146.out 6).trans rfl; have hcz15_7 : w6.cell? ⟨gb146, 7, none⟩ = some (.string a1_7) := (blk_cell BK146.out 7).trans rfl; have hfz15_0 := blk_frozen BK146.out 0; have hfz15_1 := blk_frozen BK146.out 1; have hfz15_2 := blk_frozen BK146.out 2; have hfz15_3 := blk_frozen BK146.out 3; have hfz15_4 := blk_frozen BK146.out 4; have hfz15_5 := blk_frozen BK146.out 5; have hfz15_6 := blk_frozen BK146.out 6; have hfz15_7 := blk_frozen BK146.out 7))
 go_loopg [12] k (fun kq v12 w' => ∃ (x12_1 : Int) (x149000_1 : Bool) (x149001_1 : Bool) (x149002_1 : Bool) (x149003_1 : Int) (x149004_1 : ByteArray) (x149005_1 : Bool) (x149006_1 : Int) (x149007_1 : ByteArray), v12 = .int .i64 x12_1 ∧ Aside0 (zone_Join.l0 kq x12_1 a0_0 a0_1 a0_2 a0_3 a0_4 a0_5 a0_6 a0_7 a1_0 a1_1 a1_2 a1_3 a1_4 a1_5 a1_6 a1_7 x149000_1 x149001_1 x149002_1 x149003_1 x149004_1 x149005_1 x149006_1 x149007_1 = some (r1, r2, r3, r4, r5, r6, r7, r8)) ∧ Aside0 (kq ≤ k) ∧ Aside0 (w'.heap[gb145]? = some (.cells #[.bool a0_0, .bool a0_1, .bool a0_2, .int .i64 a0_3, .string a0_4, .bool a0_5, .int .i64 a0_6, .string a0_7] 41 (0, 0))) ∧ Aside0 (w'.heap[gb146]? = some (.cells #[.bool a1_0, .bool a1_1, .bool a1_2, .int .i64 a1_3, .string a1_4, .bool a1_5, .int .i64 a1_6, .string a1_7] 41 (0, 0))) ∧ Aside0 (w'.heap[gb147]? = some (.cells #[.bool false, .bool false, .bool false, .int .i64 0, .string (⟨#[]⟩ : ByteArray), .bool false, .int .i64 0, .string (⟨#[]⟩ : ByteArray)] 41 (0, 0))) ∧ Aside0 (w'.heap[gb148]? = some (.cells #[.bool x149000_1, .bool x149001_1, .bool x149002_1, .int .i64 x149003_1, .string x149004_1, .bool x149005_1, .int .i64 x149006_1, .string x149007_1] 41 (0, 0))) ∧ Aside0 (Below w.heap.size w w'))
 case atStart => exact ⟨(0), (false), (false), (false), (0), ((⟨#[]⟩ : ByteArray)), (false), (0), ((⟨#[]⟩ : ByteArray)), (by first | rfl | (simp; done) | (simp [*]; done)), H', ⟨Nat.le_refl _⟩, ⟨by refine blk_far ?_ NB145_148.out _; refine blk_far ?_ NB145_148.out _; refine blk_far ?_ NB145_148.out _; refine blk_far ?_ NB145_148.out _; refine blk_far ?_ NB145_148.out _; refine blk_far ?_ NB145_148.out _; refine blk_far ?_ NB145_148.out _; refine blk_far ?_ NB145_148.out _; (with_reducible repeat (first | refine blk_drewN ?_ _ | refine blk_drew ?_ | refine blk_alloc ?_ _)); exact BK145.out⟩, ⟨by refine blk_far ?_ NB146_148.out _; refine blk_far ?_ NB146_148.out _; refine blk_far ?_ NB146_148.out _; refine blk_far ?_ NB146_148.out _; refine blk_far ?_ NB146_148.out _; refine blk_far ?_ NB146_148.out _; refine blk_far ?_ NB146_148.out _; refine blk_far ?_ NB146_148.out _; (with_reducible repeat (first | refine blk_drewN ?_ _ | refine blk_drew ?_ | refine blk_alloc ?_ _)); exact BK146.out⟩, ⟨by refine blk_far ?_ NB147_148.out _; refine blk_far ?_ NB147_148.out _; refine blk_far ?_ NB147_148.out _; refine blk_far ?_ NB147_148.out _; refine blk_far ?_ NB147_148.out _; refine blk_far ?_ NB147_148.out _; refine blk_far ?_ NB147_148.out _; refine blk_far ?_ NB147_148.out _; (with_reducible repeat (first | refine blk_drewN ?_ _ | refine blk_drew ?_ | refine blk_alloc ?_ _)); exact BK147.out⟩, ⟨by refine blk_put (cs := #[.bool false, .bool false, .bool false, .int .i64 0, .string (⟨#[]⟩ : ByteArray), .bool false, .int .i64 0, .string (⟨#[]⟩ : ByteArray)]) ?_ 7 _ rfl; refine blk_put (cs := #[.bool false, .bool false, .bool false, .int .i64 0, .string (⟨#[]⟩ : ByteArray), .bool false, .int .i64 0, .string (⟨#[]⟩ : ByteArray)]) ?_ 6 _ rfl; refine blk_put (cs := #[.bool false, .bool false, .bool false, .int .i64 0, .string (⟨#[]⟩ : ByteArray), .bool false, .int .i64 0, .string (⟨#[]⟩ : ByteArray)]) ?_ 5 _ rfl; refine blk_put (cs := #[.bool false, .bool false, .bool false, .int .i64 0, .string (⟨#[]⟩ : ByteArray), .bool false, .int .i64 0, .string (⟨#[]⟩ : ByteArray)]) ?_ 4 _ rfl; refine blk_put (cs := #[.bool false, .bool false, .bool false, .int .i64 0, .string (⟨#[]⟩ : ByteArray), .bool false, .int .i64 0, .string (⟨#[]⟩ : ByteArray)]) ?_ 3 _ rfl; refine blk_put (cs := #[.bool false, .bool false, .bool false, .int .i64 0, .string (⟨#[]⟩ : ByteArray), .bool false, .int .i64 0, .string (⟨#[]⟩ : ByteArray)]) ?_ 2 _ rfl; refine blk_put (cs := #[.bool false, .bool false, .bool false, .int .i64 0, .string (⟨#[]⟩ : ByteArray), .bool false, .int .i64 0, .string (⟨#[]⟩ : ByteArray)]) ?_ 1 _ rfl; refine blk_put (cs := #[.bool false, .bool false, .bool false, .int .i64 0, .string (⟨#[]⟩ : ByteArray), .bool false, .int .i64 0, .string (⟨#[]⟩ : ByteArray)]) ?_ 0 _ rfl; (with_reducible repeat (first | refine blk_drewN ?_ _ | refine blk_drew ?_ | refine blk_alloc ?_ _)); exact BK148.out⟩, ⟨by repeat (first | (with_reducible first | exact HB.out | apply below_alloc | apply pw_below_drewN | apply below_drew1 | refine below_set ?_ GE145.out | refine below_set ?_ GE146.out | refine below_set ?_ GE147.out | refine below_set ?_ GE148.out) | exact HB.out)⟩⟩
 case round =>
  clear H'
  try clear c1
  try clear c2
  try clear p2
  try clear c7
  try clear c8
  try clear c9
  try clear c11
  try clear c12
  try clear c14
  try clear hcz10_0
  try clear hcz10_1
  try clear hcz10_2
  try clear hcz10_3
  try clear hcz10_4
  try clear hcz10_5
  try clear hcz10_6
  try clear hcz10_7
  try clear hcz13_0
  try clear hcz13_1
  try clear hcz13_2
  try clear hcz13_3
  try clear hcz13_4
  try clear hcz13_5
  try clear hcz13_6
  try clear hcz13_7
  try clear hcz15_0
  try clear hcz15_1
  try clear hcz15_2
  try clear hcz15_3
  try clear hcz15_4
  try clear hcz15_5
  try clear hcz15_6
  try clear hcz15_7
  try clear hfz10_0
  try clear hfz10_1
  try clear hfz10_2
  try clear hfz10_3
  try clear hfz10_4
  try clear hfz10_5
  try clear hfz10_6
  try clear hfz10_7
  try clear hfz13_0
  try clear hfz13_1
  try clear hfz13_2
  try clear hfz13_3
  try clear hfz13_4
  try clear hfz13_5
  try clear hfz13_6
  try clear hfz13_7
  try clear hfz15_0
  try clear hfz15_1
  try clear hfz15_2
  try clear hfz15_3
  try clear hfz15_4
  try clear hfz15_5
  try clear hfz15_6
  try clear hfz15_7
  obtain ⟨x12_1, x149000_1, x149001_1, x149002_1, x149003_1, x149004_1, x149005_1, x149006_1, x149007_1, rfl, HA, HK1, BK145, BK146, BK147, BK148, HB⟩ := hrel
  cases gk with
  | zero => exact absurd HA.out (by simp [zone_Join.l0])
  | succ k1 =>
   have H := HA.out
   clear HA
   simp only [zone_Join.l0] at H
   by_cases c16 : x12_1 < 2
   ·rw [if_pos c16] at H
    have c16b0 : decide (x12_1 < 2) = true := decide_eq_true c16
    clear c16
    by_cases c17 : 0 ≤ x12_1
    ·rw [if_pos c17] at H
     have c17b0 : decide (0 ≤ x12_1) = true := decide_eq_true c17
     clear c17
     have HC19 := Aside0.mk H
     clear H
     have p18 : 0 ≤ (x12_1 : Int) := of_decide_eq_true (by first | (with_reducible assumption) | assumption)
     have q18 : x12_1 < (2 : Int) := of_decide_eq_true (by first | (with_reducible assumption) | assumption)
     have hx18 : ∀ w : World, (Instr.index 81 (.agg #[.bool a0_0, .bool a0_1, .bool a0_2, .int .i64 a0_3, .string a0_4, .bool a0_5, .int .i64 a0_6, .string a0_7, .bool a1_0, .bool a1_1, .bool a1_2, .int .i64 a1_3, .string a1_4, .bool a1_5, .int .i64 a1_6, .string a1_7]) (.int .i64 x12_1)).run Try.prog w = .ok (.agg #[.bool (pick2 x12_1 a0_0 a1_0), .bool (pick2 x12_1 a0_1 a1_1), .bool (pick2 x12_1 a0_2 a1_2), .int .i64 (pick2 x12_1 a0_3 a1_3), .string (pick2 x12_1 a0_4 a1_4), .bool (pick2 x12_1 a0_5 a1_5), .int .i64 (pick2 x12_1 a0_6 a1_6), .string (pick2 x12_1 a0_7 a1_7)]) w := fun w => by rcases (show x12_1 = 0 ∨ x12_1 = 1 by omega) with h_ | h_ <;> rw [h_] <;> kernel_rfl
     clear p18 q18
     go_upto_region 5 with (first | ((with_reducible refine gate_dst (N := 7) rfl ?_); refine box_event ?hg (N := 7) ?hd (cs := #[.bool false, .bool false, .bool false, .int .i64 0, .string (⟨#[]⟩ : ByteArray), .bool false, .int .i64 0, .string (⟨#[]⟩ : ByteArray)]) (t := 41) ?hr ?_; (case hd => rfl); (case hg => rfl); (case hr => first | (go_simp; done) | (go_simp; rfl)); intro gb149 hg w20 hbox hb; have n0_ := Aside0.mk (blk_below (g := gb145) (o := .cells #[.bool a0_0, .bool a0_1, .bool a0_2, .int .i64 a0_3, .string a0_4, .bool a0_5, .int .i64 a0_6, .string a0_7] 41 (0, 0)) (by (with_reducible repeat (first | refine blk_drewN ?_ _ | refine blk_drew ?_ | refine blk_alloc ?_ _)); exact BK145.out) hb); have n1_ := Aside0.mk (blk_below (g := gb146) (o := .cells #[.bool a1_0, .bool a1_1, .bool a1_2, .int .i64 a1_3, .string a1_4, .bool a1_5, .int .i64 a1_6, .string a1_7] 41 (0, 0)) (by (with_reducible repeat (first | refine blk_drewN ?_ _ | refine blk_drew ?_ | refine blk_alloc ?_ _)); exact BK146.out) hb); have n2_ := Aside0.mk (blk_below (g := gb147) (o := .cells #[.bool false, .bool false, .bool false, .int .i64 0, .string (⟨#[]⟩ : ByteArray), .bool false, .int .i64 0, .string (⟨#[]⟩ : ByteArray)] 41 (0, 0)) (by (with_reducible repeat (first | refine blk_drewN ?_ _ | refine blk_drew ?_ | refine blk_alloc ?_ _)); exact BK147.out) hb); have n3_ := Aside0.mk (blk_below (g := gb148) (o := .cells #[.bool x149000_1, .bool x149001_1, .bool x149002_1, .int .i64 x149003_1, .string x149004_1, .bool x149005_1, .int .i64 x149006_1, .string x149007_1] 41 (0, 0)) (by (with_reducible repeat (first | refine blk_drewN ?_ _ | refine blk_drew ?_ | refine blk_alloc ?_ _)); exact BK148.out) hb); have n4_ := Aside0.mk (below_step (by repeat (first | (with_reducible first | exact HB.out | apply below_alloc | apply pw_below_drewN | apply below_drew1 | refine below_set ?_ GE145.out | refine below_set ?_ GE146.out | refine below_set ?_ GE147.out | refine below_set ?_ GE148.out) | exact HB.out)) hb); have n5_ := Aside0.mk (hbox); have n6_ := Aside0.mk ((by rw [hg]; exact (below_size (by repeat (first | (with_reducible first | exact HB.out | apply below_alloc | apply pw_below_drewN | apply below_drew1 | refine below_set ?_ GE145.out | refine below_set ?_ GE146.out | refine below_set ?_ GE147.out | refine below_set ?_ GE148.out) | exact HB.out))) : w.heap.size ≤ gb149)); have n7_ := Aside0.mk ((by rw [hg]; exact (below_size (by repeat (first | (with_reducible first | exact HB.out | apply below_alloc | apply pw_below_drewN | apply below_drew1 | refine below_set ?_ GE145.out | refine below_set ?_ GE146.out | refine below_set ?_ GE147.out | refine below_set ?_ GE148.out) | exact HB.out))) : w.heap.size ≤ gb149)); have n8_ := Aside0.mk ((by rw [hg]; exact Nat.ne_of_lt (blk_lt (g := gb145) (o := .cells #[.bool a0_0, .bool a0_1, .bool a0_2, .int .i64 a0_3, .string a0_4, .bool a0_5, .int .i64 a0_6, .string a0_7] 41 (0, 0)) (by (with_reducible repeat (first | refine blk_drewN ?_ _ | refine blk_drew ?_ | refine blk_alloc ?_ _)); exact BK145.out)) : gb145 ≠ gb149)); have n9_ := Aside0.mk ((by rw [hg]; exact Nat.ne_of_gt (blk_lt (g := gb145) (o := .cells #[.bool a0_0, .bool a0_1, .bool a0_2, .int .i64 a0_3, .string a0_4, .bool a0_5, .int .i64 a0_6, .string a0_7] 41 (0, 0)) (by (with_reducible repeat (first | refine blk_drewN ?_ _ | refine blk_drew ?_ | refine blk_alloc ?_ _)); exact BK145.out)) : gb149 ≠ gb145)); have n10_ := Aside0.mk ((by rw [hg]; exact Nat.ne_of_lt (blk_lt (g := gb146) (o := .cells #[.bool a1_0, .bool a1_1, .bool a1_2, .int .i64 a1_3, .string a1_4, .bool a1_5, .int .i64 a1_6, .string a1_7] 41 (0, 0)) (by (with_reducible repeat (first | refine blk_drewN ?_ _ | refine blk_drew ?_ | refine blk_alloc ?_ _)); exact BK146.out)) : gb146 ≠ gb149)); have n11_ := Aside0.mk ((by rw [hg]; exact Nat.ne_of_gt (blk_lt (g := gb146) (o := .cells #[.bool a1_0, .bool a1_1, .bool a1_2, .int .i64 a1_3, .string a1_4, .bool a1_5, .int .i64 a1_6, .string a1_7] 41 (0, 0)) (by (with_reducible repeat (first | refine blk_drewN ?_ _ | refine blk_drew ?_ | refine blk_alloc ?_ _)); exact BK146.out)) : gb149 ≠ gb146)); have n12_ := Aside0.mk ((by rw [hg]; exact Nat.ne_of_lt (blk_lt (g := gb147) (o := .cells #[.bool false, .bool false, .bool false, .int .i64 0, .string (⟨#[]⟩ : ByteArray), .bool false, .int .i64 0, .string (⟨#[]⟩ : ByteArray)] 41 (0, 0)) (by (with_reducible repeat (first | refine blk_drewN ?_ _ | refine blk_drew ?_ | refine blk_alloc ?_ _)); exact BK147.out)) : gb147 ≠ gb149)); have n13_ := Aside0.mk ((by rw [hg]; exact Nat.ne_of_gt (blk_lt (g := gb147) (o := .cells #[.bool false, .bool false, .bool false, .int .i64 0, .string (⟨#[]⟩ : ByteArray), .bool false, .int .i64 0, .string (⟨#[]⟩ : ByteArray)] 41 (0, 0)) (by (with_reducible repeat (first | refine blk_drewN ?_ _ | refine blk_drew ?_ | refine blk_alloc ?_ _)); exact BK147.out)) : gb149 ≠ gb147)); have n14_ := Aside0.mk ((by rw [hg]; exact Nat.ne_of_lt (blk_lt (g := gb148) (o := .cells #[.bool x149000_1, .bool x149001_1, .bool x149002_1, .int .i64 x149003_1, .string x149004_1, .bool x149005_1, .int .i64 x149006_1, .string x149007_1] 41 (0, 0)) (by (with_reducible repeat (first | refine blk_drewN ?_ _ | refine blk_drew ?_ | refine blk_alloc ?_ _)); exact BK148.out)) : gb148 ≠ gb149)); have n15_ := Aside0.mk ((by rw [hg]; exact Nat.ne_of_gt (blk_lt (g := gb148) (o := .cells #[.bool x149000_1, .bool x149001_1, .bool x149002_1, .int .i64 x149003_1, .string x149004_1, .bool x149005_1, .int .i64 x149006_1, .string x149007_1] 41 (0, 0)) (by (with_reducible repeat (first | refine blk_drewN ?_ _ | refine blk_drew ?_ | refine blk_alloc ?_ _)); exact BK148.out)) : gb149 ≠ gb148)); clear BK145; clear BK146; clear BK147; clear BK148; clear HB; have BK145 := n0_; have BK146 := n1_; have BK147 := n2_; have BK148 := n3_; have HB := n4_; have BK149 := n5_; have GW149 := n6_; have GE149 := n7_; have NB145_149 := n8_; have NB149_145 := n9_; have NB146_149 := n10_; have NB149_146 := n11_; have NB147_149 := n12_; have NB149_147 := n13_; have NB148_149 := n14_; have NB149_148 := n15_; clear n0_ n1_ n2_ n3_ n4_ n5_ n6_ n7_ n8_ n9_ n10_ n11_ n12_ n13_ n14_ n15_; clear hb hbox hg; have hnb21 := NB149_145.out; have hnc21 := NB145_149.out; have hnb22 := NB149_146.out; have hnc22 := NB146_149.out; have hnb23 := NB149_147.out; have hnc23 := NB147_149.out; have hnb24 := NB149_148.out; have hnc24 := NB148_149.out; have hcz25_0 : w20.cell? ⟨gb149, 0, none⟩ = some (.bool false) := (blk_cell BK149.out 0).trans rfl; have hcz25_1 : w20.cell? ⟨gb149, 1, none⟩ = some (.bool false) := (blk_cell BK149.out 1).trans rfl; have hcz25_2 : w20.cell? ⟨gb149, 2, none⟩ = some (.bool false) := (blk_cell BK149.out 2).trans rfl; have hcz25_3 : w20.cell? ⟨gb149, 3, none⟩ = some (.int .i64 0) := (blk_cell BK149.out 3).trans rfl; have hcz25_4 : w20.cell? ⟨gb149, 4, none⟩ = some (.string (⟨#[]⟩ : ByteArray)) := (blk_cell BK149.out 4).trans rfl; have hcz25_5 : w20.cell? ⟨gb149, 5, none⟩ = some (.bool false) := (blk_cell BK149.out 5).trans rfl; have hcz25_6 : w20.cell? ⟨gb149, 6, none⟩ = some (.int .i64 0) := (blk_cell BK149.out 6).trans rfl; have hcz25_7 : w20.cell? ⟨gb149, 7, none⟩ = some (.string (⟨#[]⟩ : ByteArray)) := (blk_cell BK149.out 7).trans rfl; have hfz25_0 := blk_frozen BK149.out 0; have hfz25_1 := blk_frozen BK149.out 1; have hfz25_2 := blk_frozen BK149.out 2; have hfz25_3 := blk_frozen BK149.out 3; have hfz25_4 := blk_frozen BK149.out 4; have hfz25_5 := blk_frozen BK149.out 5; have hfz25_6 := blk_frozen BK149.out 6; have hfz25_7 := blk_frozen BK149.out 7))
     (try simp only [Act.put, List.setIfInBounds_toArray, List.set_cons_zero, List.set_cons_succ])
     go_cut [] (fun wc => ∃ (kq : Nat) (x149000_18 : Bool), Aside0 (zone_Join.j1 kq x12_1 a0_0 a0_1 a0_2 a0_3 a0_4 a0_5 a0_6 a0_7 a1_0 a1_1 a1_2 a1_3 a1_4 a1_5 a1_6 a1_7 x149000_18 x149001_1 x149002_1 x149003_1 x149004_1 x149005_1 x149006_1 x149007_1 (pick2 x12_1 a0_0 a1_0) (pick2 x12_1 a0_1 a1_1) (pick2 x12_1 a0_2 a1_2) (pick2 x12_1 a0_3 a1_3) (pick2 x12_1 a0_4 a1_4) (pick2 x12_1 a0_5 a1_5) (pick2 x12_1 a0_6 a1_6) (pick2 x12_1 a0_7 a1_7) = some (r1, r2, r3, r4, r5, r6, r7, r8)) ∧ Aside0 (kq ≤ k1) ∧ Aside0 (wc.heap[gb145]? = some (.cells #[.bool a0_0, .bool a0_1, .bool a0_2, .int .i64 a0_3, .string a0_4, .bool a0_5, .int .i64 a0_6, .string a0_7] 41 (0, 0))) ∧ Aside0 (wc.heap[gb146]? = some (.cells #[.bool a1_0, .bool a1_1, .bool a1_2, .int .i64 a1_3, .string a1_4, .bool a1_5, .int .i64 a1_6, .string a1_7] 41 (0, 0))) ∧ Aside0 (wc.heap[gb147]? = some (.cells #[.bool false, .bool false, .bool false, .int .i64 0, .string (⟨#[]⟩ : ByteArray), .bool false, .int .i64 0, .string (⟨#[]⟩ : ByteArray)] 41 (0, 0))) ∧ Aside0 (wc.heap[gb148]? = some (.cells #[.bool x149000_18, .bool x149001_1, .bool x149002_1, .int .i64 x149003_1, .string x149004_1, .bool x149005_1, .int .i64 x149006_1, .string x149007_1] 41 (0, 0))) ∧ Aside0 (wc.heap[gb149]? = some (.cells #[.bool (pick2 x12_1 a0_0 a1_0), .bool (pick2 x12_1 a0_1 a1_1), .bool (pick2 x12_1 a0_2 a1_2), .int .i64 (pick2 x12_1 a0_3 a1_3), .string (pick2 x12_1 a0_4 a1_4), .bool (pick2 x12_1 a0_5 a1_5), .int .i64 (pick2 x12_1 a0_6 a1_6), .string (pick2 x12_1 a0_7 a1_7)] 41 (0, 0))) ∧ Aside0 (Below w.heap.size w wc))
     case first =>
      have H := HC19.out
      clear HC19
      by_cases c26 : x149000_1 = true
      ·subst c26
       have H1 : (zone_Join.j1 k1 x12_1 a0_0 a0_1 a0_2 a0_3 a0_4 a0_5 a0_6 a0_7 a1_0 a1_1 a1_2 a1_3 a1_4 a1_5 a1_6 a1_7 true x149001_1 x149002_1 x149003_1 x149004_1 x149005_1 x149006_1 x149007_1 (pick2 x12_1 a0_0 a1_0) (pick2 x12_1 a0_1 a1_1) (pick2 x12_1 a0_2 a1_2) (pick2 x12_1 a0_3 a1_3) (pick2 x12_1 a0_4 a1_4) (pick2 x12_1 a0_5 a1_5) (pick2 x12_1 a0_6 a1_6) (pick2 x12_1 a0_7 a1_7)) = some (r1, r2, r3, r4, r5, r6, r7, r8) := by rw [if_pos rfl] at H; exact H
       clear H
       have H := H1
       clear H1
       have H' := Aside0.mk H
       clear H
       have hnb27 := NB148_145.out
       have hnc27 := NB145_148.out
       have hnb28 := NB148_146.out
       have hnc28 := NB146_148.out
       have hnb29 := NB148_147.out
       have hnc29 := NB147_148.out
       have hnb30 := NB148_149.out
       have hnc30 := NB149_148.out
       have hcz31_0 : w20.cell? ⟨gb148, 0, none⟩ = some (.bool true) := (blk_cell BK148.out 0).trans rfl
       have hcz31_1 : w20.cell? ⟨gb148, 1, none⟩ = some (.bool x149001_1) := (blk_cell BK148.out 1).trans rfl
       have hcz31_2 : w20.cell? ⟨gb148, 2, none⟩ = some (.bool x149002_1) := (blk_cell BK148.out 2).trans rfl
       have hcz31_3 : w20.cell? ⟨gb148, 3, none⟩ = some (.int .i64 x149003_1) := (blk_cell BK148.out 3).trans rfl
       have hcz31_4 : w20.cell? ⟨gb148, 4, none⟩ = some (.string x149004_1) := (blk_cell BK148.out 4).trans rfl
       have hcz31_5 : w20.cell? ⟨gb148, 5, none⟩ = some (.bool x149005_1) := (blk_cell BK148.out 5).trans rfl
       have hcz31_6 : w20.cell? ⟨gb148, 6, none⟩ = some (.int .i64 x149006_1) := (blk_cell BK148.out 6).trans rfl
       have hcz31_7 : w20.cell? ⟨gb148, 7, none⟩ = some (.string x149007_1) := (blk_cell BK148.out 7).trans rfl
       have hfz31_0 := blk_frozen BK148.out 0
       have hfz31_1 := blk_frozen BK148.out 1
       have hfz31_2 := blk_frozen BK148.out 2
       have hfz31_3 := blk_frozen BK148.out 3
       have hfz31_4 := blk_frozen BK148.out 4
       have hfz31_5 := blk_frozen BK148.out 5
       have hfz31_6 := blk_frozen BK148.out 6
       have hfz31_7 := blk_frozen BK148.out 7
       go_wp2
       go_meet
       case rel => exact ⟨_, (true), H', ⟨by have := HK1.out; first | omega | exact Nat.le_refl _⟩, ⟨by refine blk_far ?_ NB145_148.out _; refine blk_far ?_ NB145_149.out _; refine blk_far ?_ NB145_149.out _; refine blk_far ?_ NB145_149.out _; refine blk_far ?_ NB145_149.out _; refine blk_far ?_ NB145_149.out _; refine blk_far ?_ NB145_149.out _; refine blk_far ?_ NB145_149.out _; refine blk_far ?_ NB145_149.out _; (with_reducible repeat (first | refine blk_drewN ?_ _ | refine blk_drew ?_ | refine blk_alloc ?_ _)); exact BK145.out⟩, ⟨by refine blk_far ?_ NB146_148.out _; refine blk_far ?_ NB146_149.out _; refine blk_far ?_ NB146_149.out _; refine blk_far ?_ NB146_149.out _; refine blk_far ?_ NB146_149.out _; refine blk_far ?_ NB146_149.out _; refine blk_far ?_ NB146_149.out _; refine blk_far ?_ NB146_149.out _; refine blk_far ?_ NB146_149.out _; (with_reducible repeat (first | refine blk_drewN ?_ _ | refine blk_drew ?_ | refine blk_alloc ?_ _)); exact BK146.out⟩, ⟨by refine blk_far ?_ NB147_148.out _; refine blk_far ?_ NB147_149.out _; refine blk_far ?_ NB147_149.out _; refine blk_far ?_ NB147_149.out _; refine blk_far ?_ NB147_149.out _; refine blk_far ?_ NB147_149.out _; refine blk_far ?_ NB147_149.out _; refine blk_far ?_ NB147_149.out _; refine blk_far ?_ NB147_149.out _; (with_reducible repeat (first | refine blk_drewN ?_ _ | refine blk_drew ?_ | refine blk_alloc ?_ _)); exact BK147.out⟩, ⟨by refine blk_put (cs := #[.bool true, .bool x149001_1, .bool x149002_1, .int .i64 x149003_1, .string x149004_1, .bool x149005_1, .int .i64 x149006_1, .string x149007_1]) ?_ 0 _ rfl; refine blk_far ?_ NB148_149.out _; refine blk_far ?_ NB148_149.out _; refine blk_far ?_ NB148_149.out _; refine blk_far ?_ NB148_149.out _; refine blk_far ?_ NB148_149.out _; refine blk_far ?_ NB148_149.out _; refine blk_far ?_ NB148_149.out _; refine blk_far ?_ NB148_149.out _; (with_reducible repeat (first | refine blk_drewN ?_ _ | refine blk_drew ?_ | refine blk_alloc ?_ _)); exact BK148.out⟩, ⟨by refine blk_far ?_ NB149_148.out _; refine blk_put (cs := #[.bool (pick2 x12_1 a0_0 a1_0), .bool (pick2 x12_1 a0_1 a1_1), .bool (pick2 x12_1 a0_2 a1_2), .int .i64 (pick2 x12_1 a0_3 a1_3), .string (pick2 x12_1 a0_4 a1_4), .bool (pick2 x12_1 a0_5 a1_5), .int .i64 (pick2 x12_1 a0_6 a1_6), .string (⟨#[]⟩ : ByteArray)]) ?_ 7 _ rfl; refine blk_put (cs := #[.bool (pick2 x12_1 a0_0 a1_0), .bool (pick2 x12_1 a0_1 a1_1), .bool (pick2 x12_1 a0_2 a1_2), .int .i64 (pick2 x12_1 a0_3 a1_3), .string (pick2 x12_1 a0_4 a1_4), .bool (pick2 x12_1 a0_5 a1_5), .int .i64 0, .string (⟨#[]⟩ : ByteArray)]) ?_ 6 _ rfl; refine blk_put (cs := #[.bool (pick2 x12_1 a0_0 a1_0), .bool (pick2 x12_1 a0_1 a1_1), .bool (pick2 x12_1 a0_2 a1_2), .int .i64 (pick2 x12_1 a0_3 a1_3), .string (pick2 x12_1 a0_4 a1_4), .bool false, .int .i64 0, .string (⟨#[]⟩ : ByteArray)]) ?_ 5 _ rfl; refine blk_put (cs := #[.bool (pick2 x12_1 a0_0 a1_0), .bool (pick2 x12_1 a0_1 a1_1), .bool (pick2 x12_1 a0_2 a1_2), .int .i64 (pick2 x12_1 a0_3 a1_3), .string (⟨#[]⟩ : ByteArray), .bool false, .int .i64 0, .string (⟨#[]⟩ : ByteArray)]) ?_ 4 _ rfl; refine blk_put (cs := #[.bool (pick2 x12_1 a0_0 a1_0), .bool (pick2 x12_1 a0_1 a1_1), .bool (pick2 x12_1 a0_2 a1_2), .int .i64 0, .string (⟨#[]⟩ : ByteArray), .bool false, .int .i64 0, .string (⟨#[]⟩ : ByteArray)]) ?_ 3 _ rfl; refine blk_put (cs := #[.bool (pick2 x12_1 a0_0 a1_0), .bool (pick2 x12_1 a0_1 a1_1), .bool false, .int .i64 0, .string (⟨#[]⟩ : ByteArray), .bool false, .int .i64 0, .string (⟨#[]⟩ : ByteArray)]) ?_ 2 _ rfl; refine blk_put (cs := #[.bool (pick2 x12_1 a0_0 a1_0), .bool false, .bool false, .int .i64 0, .string (⟨#[]⟩ : ByteArray), .bool false, .int .i64 0, .string (⟨#[]⟩ : ByteArray)]) ?_ 1 _ rfl; refine blk_put (cs := #[.bool false, .bool false, .bool false, .int .i64 0, .string (⟨#[]⟩ : ByteArray), .bool false, .int .i64 0, .string (⟨#[]⟩ : ByteArray)]) ?_ 0 _ rfl; (with_reducible repeat (first | refine blk_drewN ?_ _ | refine blk_drew ?_ | refine blk_alloc ?_ _)); exact BK149.out⟩, ⟨by repeat (first | (with_reducible first | exact HB.out | apply below_alloc | apply pw_below_drewN | apply below_drew1 | refine below_set ?_ GE145.out | refine below_set ?_ GE146.out | refine below_set ?_ GE147.out | refine below_set ?_ GE148.out | refine below_set ?_ GE149.out) | exact HB.out)⟩⟩
      ·replace c26 := Bool.eq_false_iff.mpr c26
       subst c26
       have H1 : (zone_Join.j1 k1 x12_1 a0_0 a0_1 a0_2 a0_3 a0_4 a0_5 a0_6 a0_7 a1_0 a1_1 a1_2 a1_3 a1_4 a1_5 a1_6 a1_7 (pick2 x12_1 a0_0 a1_0) x149001_1 x149002_1 x149003_1 x149004_1 x149005_1 x149006_1 x149007_1 (pick2 x12_1 a0_0 a1_0) (pick2 x12_1 a0_1 a1_1) (pick2 x12_1 a0_2 a1_2) (pick2 x12_1 a0_3 a1_3) (pick2 x12_1 a0_4 a1_4) (pick2 x12_1 a0_5 a1_5) (pick2 x12_1 a0_6 a1_6) (pick2 x12_1 a0_7 a1_7)) = some (r1, r2, r3, r4, r5, r6, r7, r8) := by rw [if_neg (show ¬ (false = true) by decide)] at H; exact H
       clear H
       have H := H1
       clear H1
       have H' := Aside0.mk H
       clear H
       have hnb32 := NB148_145.out
       have hnc32 := NB145_148.out
       have hnb33 := NB148_146.out
       have hnc33 := NB146_148.out
       have hnb34 := NB148_147.out
       have hnc34 := NB147_148.out
       have hnb35 := NB148_149.out
       have hnc35 := NB149_148.out
       have hcz36_0 : w20.cell? ⟨gb148, 0, none⟩ = some (.bool false) := (blk_cell BK148.out 0).trans rfl
       have hcz36_1 : w20.cell? ⟨gb148, 1, none⟩ = some (.bool x149001_1) := (blk_cell BK148.out 1).trans rfl
       have hcz36_2 : w20.cell? ⟨gb148, 2, none⟩ = some (.bool x149002_1) := (blk_cell BK148.out 2).trans rfl
       have hcz36_3 : w20.cell? ⟨gb148, 3, none⟩ = some (.int .i64 x149003_1) := (blk_cell BK148.out 3).trans rfl
       have hcz36_4 : w20.cell? ⟨gb148, 4, none⟩ = some (.string x149004_1) := (blk_cell BK148.out 4).trans rfl
       have hcz36_5 : w20.cell? ⟨gb148, 5, none⟩ = some (.bool x149005_1) := (blk_cell BK148.out 5).trans rfl
       have hcz36_6 : w20.cell? ⟨gb148, 6, none⟩ = some (.int .i64 x149006_1) := (blk_cell BK148.out 6).trans rfl
       have hcz36_7 : w20.cell? ⟨gb148, 7, none⟩ = some (.string x149007_1) := (blk_cell BK148.out 7).trans rfl
       have hfz36_0 := blk_frozen BK148.out 0
       have hfz36_1 := blk_frozen BK148.out 1
       have hfz36_2 := blk_frozen BK148.out 2
       have hfz36_3 := blk_frozen BK148.out 3
       have hfz36_4 := blk_frozen BK148.out 4
       have hfz36_5 := blk_frozen BK148.out 5
       have hfz36_6 := blk_frozen BK148.out 6
       have hfz36_7 := blk_frozen BK148.out 7
       have hnb37 := NB149_145.out
       have hnc37 := NB145_149.out
       have hnb38 := NB149_146.out
       have hnc38 := NB146_149.out
       have hnb39 := NB149_147.out
       have hnc39 := NB147_149.out
       have hcz40_0 : w20.cell? ⟨gb149, 0, none⟩ = some (.bool false) := (blk_cell BK149.out 0).trans rfl
       have hcz40_1 : w20.cell? ⟨gb149, 1, none⟩ = some (.bool false) := (blk_cell BK149.out 1).trans rfl
       have hcz40_2 : w20.cell? ⟨gb149, 2, none⟩ = some (.bool false) := (blk_cell BK149.out 2).trans rfl
       have hcz40_3 : w20.cell? ⟨gb149, 3, none⟩ = some (.int .i64 0) := (blk_cell BK149.out 3).trans rfl
       have hcz40_4 : w20.cell? ⟨gb149, 4, none⟩ = some (.string (⟨#[]⟩ : ByteArray)) := (blk_cell BK149.out 4).trans rfl
       have hcz40_5 : w20.cell? ⟨gb149, 5, none⟩ = some (.bool false) := (blk_cell BK149.out 5).trans rfl
       have hcz40_6 : w20.cell? ⟨gb149, 6, none⟩ = some (.int .i64 0) := (blk_cell BK149.out 6).trans rfl
       have hcz40_7 : w20.cell? ⟨gb149, 7, none⟩ = some (.string (⟨#[]⟩ : ByteArray)) := (blk_cell BK149.out 7).trans rfl
       have hfz40_0 := blk_frozen BK149.out 0
       have hfz40_1 := blk_frozen BK149.out 1
       have hfz40_2 := blk_frozen BK149.out 2
       have hfz40_3 := blk_frozen BK149.out 3
       have hfz40_4 := blk_frozen BK149.out 4
       have hfz40_5 := blk_frozen BK149.out 5
       have hfz40_6 := blk_frozen BK149.out 6
       have hfz40_7 := blk_frozen BK149.out 7
       go_wp2
       go_meet
       case rel => exact ⟨_, ((pick2 x12_1 a0_0 a1_0)), H', ⟨by have := HK1.out; first | omega | exact Nat.le_refl _⟩, ⟨by refine blk_far ?_ NB145_148.out _; refine blk_far ?_ NB145_149.out _; refine blk_far ?_ NB145_149.out _; refine blk_far ?_ NB145_149.out _; refine blk_far ?_ NB145_149.out _; refine blk_far ?_ NB145_149.out _; refine blk_far ?_ NB145_149.out _; refine blk_far ?_ NB145_149.out _; refine blk_far ?_ NB145_149.out _; (with_reducible repeat (first | refine blk_drewN ?_ _ | refine blk_drew ?_ | refine blk_alloc ?_ _)); exact BK145.out⟩, ⟨by refine blk_far ?_ NB146_148.out _; refine blk_far ?_ NB146_149.out _; refine blk_far ?_ NB146_149.out _; refine blk_far ?_ NB146_149.out _; refine blk_far ?_ NB146_149.out _; refine blk_far ?_ NB146_149.out _; refine blk_far ?_ NB146_149.out _; refine blk_far ?_ NB146_149.out _; refine blk_far ?_ NB146_149.out _; (with_reducible repeat (first | refine blk_drewN ?_ _ | refine blk_drew ?_ | refine blk_alloc ?_ _)); exact BK146.out⟩, ⟨by refine blk_far ?_ NB147_148.out _; refine blk_far ?_ NB147_149.out _; refine blk_far ?_ NB147_149.out _; refine blk_far ?_ NB147_149.out _; refine blk_far ?_ NB147_149.out _; refine blk_far ?_ NB147_149.out _; refine blk_far ?_ NB147_149.out _; refine blk_far ?_ NB147_149.out _; refine blk_far ?_ NB147_149.out _; (with_reducible repeat (first | refine blk_drewN ?_ _ | refine blk_drew ?_ | refine blk_alloc ?_ _)); exact BK147.out⟩, ⟨by refine blk_put (cs := #[.bool false, .bool x149001_1, .bool x149002_1, .int .i64 x149003_1, .string x149004_1, .bool x149005_1, .int .i64 x149006_1, .string x149007_1]) ?_ 0 _ rfl; refine blk_far ?_ NB148_149.out _; refine blk_far ?_ NB148_149.out _; refine blk_far ?_ NB148_149.out _; refine blk_far ?_ NB148_149.out _; refine blk_far ?_ NB148_149.out _; refine blk_far ?_ NB148_149.out _; refine blk_far ?_ NB148_149.out _; refine blk_far ?_ NB148_149.out _; (with_reducible repeat (first | refine blk_drewN ?_ _ | refine blk_drew ?_ | refine blk_alloc ?_ _)); exact BK148.out⟩, ⟨by refine blk_far ?_ NB149_148.out _; refine blk_put (cs := #[.bool (pick2 x12_1 a0_0 a1_0), .bool (pick2 x12_1 a0_1 a1_1), .bool (pick2 x12_1 a0_2 a1_2), .int .i64 (pick2 x12_1 a0_3 a1_3), .string (pick2 x12_1 a0_4 a1_4), .bool (pick2 x12_1 a0_5 a1_5), .int .i64 (pick2 x12_1 a0_6 a1_6), .string (⟨#[]⟩ : ByteArray)]) ?_ 7 _ rfl; refine blk_put (cs := #[.bool (pick2 x12_1 a0_0 a1_0), .bool (pick2 x12_1 a0_1 a1_1), .bool (pick2 x12_1 a0_2 a1_2), .int .i64 (pick2 x12_1 a0_3 a1_3), .string (pick2 x12_1 a0_4 a1_4), .bool (pick2 x12_1 a0_5 a1_5), .int .i64 0, .string (⟨#[]⟩ : ByteArray)]) ?_ 6 _ rfl; refine blk_put (cs := #[.bool (pick2 x12_1 a0_0 a1_0), .bool (pick2 x12_1 a0_1 a1_1), .bool (pick2 x12_1 a0_2 a1_2), .int .i64 (pick2 x12_1 a0_3 a1_3), .string (pick2 x12_1 a0_4 a1_4), .bool false, .int .i64 0, .string (⟨#[]⟩ : ByteArray)]) ?_ 5 _ rfl; refine blk_put (cs := #[.bool (pick2 x12_1 a0_0 a1_0), .bool (pick2 x12_1 a0_1 a1_1), .bool (pick2 x12_1 a0_2 a1_2), .int .i64 (pick2 x12_1 a0_3 a1_3), .string (⟨#[]⟩ : ByteArray), .bool false, .int .i64 0, .string (⟨#[]⟩ : ByteArray)]) ?_ 4 _ rfl; refine blk_put (cs := #[.bool (pick2 x12_1 a0_0 a1_0), .bool (pick2 x12_1 a0_1 a1_1), .bool (pick2 x12_1 a0_2 a1_2), .int .i64 0, .string (⟨#[]⟩ : ByteArray), .bool false, .int .i64 0, .string (⟨#[]⟩ : ByteArray)]) ?_ 3 _ rfl; refine blk_put (cs := #[.bool (pick2 x12_1 a0_0 a1_0), .bool (pick2 x12_1 a0_1 a1_1), .bool false, .int .i64 0, .string (⟨#[]⟩ : ByteArray), .bool false, .int .i64 0, .string (⟨#[]⟩ : ByteArray)]) ?_ 2 _ rfl; refine blk_put (cs := #[.bool (pick2 x12_1 a0_0 a1_0), .bool false, .bool false, .int .i64 0, .string (⟨#[]⟩ : ByteArray), .bool false, .int .i64 0, .string (⟨#[]⟩ : ByteArray)]) ?_ 1 _ rfl; refine blk_put (cs := #[.bool false, .bool false, .bool false, .int .i64 0, .string (⟨#[]⟩ : ByteArray), .bool false, .int .i64 0, .string (⟨#[]⟩ : ByteArray)]) ?_ 0 _ rfl; (with_reducible repeat (first | refine blk_drewN ?_ _ | refine blk_drew ?_ | refine blk_alloc ?_ _)); exact BK149.out⟩, ⟨by repeat (first | (with_reducible first | exact HB.out | apply below_alloc | apply pw_below_drewN | apply below_drew1 | refine below_set ?_ GE145.out | refine below_set ?_ GE146.out | refine below_set ?_ GE147.out | refine below_set ?_ GE148.out | refine below_set ?_ GE149.out) | exact HB.out)⟩⟩
     case rest =>
      clear HC19
      try clear c1
      try clear p1
      try clear q1
      try clear hx1
      try clear c2
      try clear p2
      try clear c3
      try clear c7
      try clear c8
      try clear c9
      try clear c11
      try clear c12
      try clear c14
      try clear c16
      try clear c16b0
      try clear c17
      try clear c17b0
      try clear p18
      try clear q18
      try clear hx18
      try clear c21
      try clear c22
      try clear c23
      try clear c24
      try clear c25
      try clear c26
      try clear c27
      try clear c28
      try clear c29
      try clear c30
      try clear c32
      try clear c33
      try clear c34
      try clear c35
      try clear c37
      try clear c38
      try clear c39
      try clear hcz10_0
      try clear hcz10_1
      try clear hcz10_2
      try clear hcz10_3
      try clear hcz10_4
      try clear hcz10_5
      try clear hcz10_6
      try clear hcz10_7
      try clear hcz13_0
      try clear hcz13_1
      try clear hcz13_2
      try clear hcz13_3
      try clear hcz13_4
      try clear hcz13_5
      try clear hcz13_6
      try clear hcz13_7
      try clear hcz15_0
      try clear hcz15_1
      try clear hcz15_2
      try clear hcz15_3
      try clear hcz15_4
      try clear hcz15_5
      try clear hcz15_6
      try clear hcz15_7
      try clear hcz25_0
      try clear hcz25_1
      try clear hcz25_2
      try clear hcz25_3
      try clear hcz25_4
      try clear hcz25_5
      try clear hcz25_6
      try clear hcz25_7
      try clear hcz31_0
      try clear hcz31_1
      try clear hcz31_2
      try clear hcz31_3
      try clear hcz31_4
      try clear hcz31_5
      try clear hcz31_6
      try clear hcz31_7
      try clear hcz36_0
      try clear hcz36_1
      try clear hcz36_2
      try clear hcz36_3
      try clear hcz36_4
      try clear hcz36_5
      try clear hcz36_6
      try clear hcz36_7
      try clear hcz40_0
      try clear hcz40_1
      try clear hcz40_2
      try clear hcz40_3
      try clear hcz40_4
      try clear hcz40_5
      try clear hcz40_6
      try clear hcz40_7
      try clear hfz10_0
      try clear hfz10_1
      try clear hfz10_2
      try clear hfz10_3
      try clear hfz10_4
      try clear hfz10_5
      try clear hfz10_6
      try clear hfz10_7
      try clear hfz13_0
      try clear hfz13_1
      try clear hfz13_2
      try clear hfz13_3
      try clear hfz13_4
      try clear hfz13_5
      try clear hfz13_6
      try clear hfz13_7
      try clear hfz15_0
      try clear hfz15_1
      try clear hfz15_2
      try clear hfz15_3
      try clear hfz15_4
      try clear hfz15_5
      try clear hfz15_6
      try clear hfz15_7
      try clear hfz25_0
      try clear hfz25_1
      try clear hfz25_2
      try clear hfz25_3
      try clear hfz25_4
      try clear hfz25_5
      try clear hfz25_6
      try clear hfz25_7
      try clear hfz31_0
      try clear hfz31_1
      try clear hfz31_2
      try clear hfz31_3
      try clear hfz31_4
      try clear hfz31_5
      try clear hfz31_6
      try clear hfz31_7
      try clear hfz36_0
      try clear hfz36_1
      try clear hfz36_2
      try clear hfz36_3
      try clear hfz36_4
      try clear hfz36_5
      try clear hfz36_6
      try clear hfz36_7
      try clear hfz40_0
      try clear hfz40_1
      try clear hfz40_2
      try clear hfz40_3
      try clear hfz40_4
      try clear hfz40_5
      try clear hfz40_6
      try clear hfz40_7
      try clear p18
      try clear p2
      try clear q18
      obtain ⟨kq, x149000_18, HA, HJ18, BK145, BK146, BK147, BK148, BK149, HB⟩ := hcut
      cases kq with
      | zero => exact absurd HA.out (by simp [zone_Join.j1])
      | succ kj18 =>
       have H := HA.out
       clear HA
       simp only [zone_Join.j1] at H
       by_cases c41 : (pick2 x12_1 a0_1 a1_1) = true
       ·rw [if_pos c41] at H
        have c41b0 : (pick2 x12_1 a0_1 a1_1) = true := c41
        clear c41
        replace H := Option.bind_eq_some_iff.mp H
        obtain ⟨⟨t150, t151, t152, t153, t154, t155, t156, t157⟩, A420, H⟩ := H
        replace H : (if x149001_1 = true then ((kinds_Compare_c.f t152 t153 t154 x149002_1 x149003_1 x149004_1).bind fun t158 => (if t158 < 0 then (zone_Join.j2 kj18 x12_1 a0_0 a0_1 a0_2 a0_3 a0_4 a0_5 a0_6 a0_7 a1_0 a1_1 a1_2 a1_3 a1_4 a1_5 a1_6 a1_7 x149000_18 x149001_1 t152 t153 t154 x149005_1 x149006_1 x149007_1 t150 t151 t152 t153 t154 t155 t156 t157) else (zone_Join.j2 kj18 x12_1 a0_0 a0_1 a0_2 a0_3 a0_4 a0_5 a0_6 a0_7 a1_0 a1_1 a1_2 a1_3 a1_4 a1_5 a1_6 a1_7 x149000_18 x149001_1 x149002_1 x149003_1 x149004_1 x149005_1 x149006_1 x149007_1 t150 t151 t152 t153 t154 t155 t156 t157))) else (zone_Join.l0 kj18 (wrap64 (x12_1 + 1)) a0_0 a0_1 a0_2 a0_3 a0_4 a0_5 a0_6 a0_7 a1_0 a1_1 a1_2 a1_3 a1_4 a1_5 a1_6 a1_7 x149000_18 t151 t152 t153 t154 t155 t156 t157)) = some (r1, r2, r3, r4, r5, r6, r7, r8) := H
        have A42 := Aside0.mk A420
        clear A420
        by_cases c43 : x149001_1 = true
        ·subst c43
         have H1 : ((kinds_Compare_c.f t152 t153 t154 x149002_1 x149003_1 x149004_1).bind fun t158 => (if t158 < 0 then (zone_Join.j2 kj18 x12_1 a0_0 a0_1 a0_2 a0_3 a0_4 a0_5 a0_6 a0_7 a1_0 a1_1 a1_2 a1_3 a1_4 a1_5 a1_6 a1_7 x149000_18 true t152 t153 t154 x149005_1 x149006_1 x149007_1 t150 t151 t152 t153 t154 t155 t156 t157) else (zone_Join.j2 kj18 x12_1 a0_0 a0_1 a0_2 a0_3 a0_4 a0_5 a0_6 a0_7 a1_0 a1_1 a1_2 a1_3 a1_4 a1_5 a1_6 a1_7 x149000_18 true x149002_1 x149003_1 x149004_1 x149005_1 x149006_1 x149007_1 t150 t151 t152 t153 t154 t155 t156 t157))) = some (r1, r2, r3, r4, r5, r6, r7, r8) := by rw [if_pos rfl] at H; exact H
         clear H
         have H := H1
         clear H1
         replace H := Option.bind_eq_some_iff.mp H
         obtain ⟨t158, A440, H⟩ := H
         replace H : (if t158 < 0 then (zone_Join.j2 kj18 x12_1 a0_0 a0_1 a0_2 a0_3 a0_4 a0_5 a0_6 a0_7 a1_0 a1_1 a1_2 a1_3 a1_4 a1_5 a1_6 a1_7 x149000_18 true t152 t153 t154 x149005_1 x149006_1 x149007_1 t150 t151 t152 t153 t154 t155 t156 t157) else (zone_Join.j2 kj18 x12_1 a0_0 a0_1 a0_2 a0_3 a0_4 a0_5 a0_6 a0_7 a1_0 a1_1 a1_2 a1_3 a1_4 a1_5 a1_6 a1_7 x149000_18 true x149002_1 x149003_1 x149004_1 x149005_1 x149006_1 x149007_1 t150 t151 t152 t153 t154 t155 t156 t157)) = some (r1, r2, r3, r4, r5, r6, r7, r8) := H
         have A44 := Aside0.mk A440
         clear A440
         have HC45 := Aside0.mk H
         clear H
         have hnb46 := NB149_145.out
         have hnc46 := NB145_149.out
         have hnb47 := NB149_146.out
         have hnc47 := NB146_149.out
         have hnb48 := NB149_147.out
         have hnc48 := NB147_149.out
         have hnb49 := NB149_148.out
         have hnc49 := NB148_149.out
         have hcz50_0 : wc.cell? ⟨gb149, 0, none⟩ = some (.bool (pick2 x12_1 a0_0 a1_0)) := (blk_cell BK149.out 0).trans rfl
         have hcz50_1 : wc.cell? ⟨gb149, 1, none⟩ = some (.bool (pick2 x12_1 a0_1 a1_1)) := (blk_cell BK149.out 1).trans rfl
         have hcz50_2 : wc.cell? ⟨gb149, 2, none⟩ = some (.bool (pick2 x12_1 a0_2 a1_2)) := (blk_cell BK149.out 2).trans rfl
         have hcz50_3 : wc.cell? ⟨gb149, 3, none⟩ = some (.int .i64 (pick2 x12_1 a0_3 a1_3)) := (blk_cell BK149.out 3).trans rfl
         have hcz50_4 : wc.cell? ⟨gb149, 4, none⟩ = some (.string (pick2 x12_1 a0_4 a1_4)) := (blk_cell BK149.out 4).trans rfl
         have hcz50_5 : wc.cell? ⟨gb149, 5, none⟩ = some (.bool (pick2 x12_1 a0_5 a1_5)) := (blk_cell BK149.out 5).trans rfl
         have hcz50_6 : wc.cell? ⟨gb149, 6, none⟩ = some (.int .i64 (pick2 x12_1 a0_6 a1_6)) := (blk_cell BK149.out 6).trans rfl
         have hcz50_7 : wc.cell? ⟨gb149, 7, none⟩ = some (.string (pick2 x12_1 a0_7 a1_7)) := (blk_cell BK149.out 7).trans rfl
         have hfz50_0 := blk_frozen BK149.out 0
         have hfz50_1 := blk_frozen BK149.out 1
         have hfz50_2 := blk_frozen BK149.out 2
         have hfz50_3 := blk_frozen BK149.out 3
         have hfz50_4 := blk_frozen BK149.out 4
         have hfz50_5 := blk_frozen BK149.out 5
         have hfz50_6 := blk_frozen BK149.out 6
         have hfz50_7 := blk_frozen BK149.out 7
         go_upto_if 39 with (first | ((with_reducible refine gate_callee (f := 49) rfl ?_); refine goesL_ (some 26) rfl rfl Try.func49 (by kernel_rfl) rfl #[.agg #[.bool (pick2 x12_1 a0_0 a1_0), .bool (pick2 x12_1 a0_1 a1_1), .bool (pick2 x12_1 a0_2 a1_2), .int .i64 (pick2 x12_1 a0_3 a1_3), .string (pick2 x12_1 a0_4 a1_4), .bool (pick2 x12_1 a0_5 a1_5), .int .i64 (pick2 x12_1 a0_6 a1_6), .string (pick2 x12_1 a0_7 a1_7)]] rfl (by (try simp only [List.map_toArray, List.map_cons, List.map_nil]); first | done | rfl | (simp only [List.length_drop, List.length_take]; rfl) | (simp only [*]; first | done | rfl) | (simp [*]; first | done | rfl)) ?_; (with_reducible refine (zone_ordered_c.calls (pick2 x12_1 a0_0 a1_0) (pick2 x12_1 a0_1 a1_1) (pick2 x12_1 a0_2 a1_2) (pick2 x12_1 a0_3 a1_3) (pick2 x12_1 a0_4 a1_4) (pick2 x12_1 a0_5 a1_5) (pick2 x12_1 a0_6 a1_6) (pick2 x12_1 a0_7 a1_7) t150 t151 t152 t153 t154 t155 t156 t157 _ A42.out).mono ?_); rintro e w51 ⟨rfl, hb⟩; refine ⟨_, rfl, ?_⟩; have n0_ := Aside0.mk (blk_below (g := gb145) (o := .cells #[.bool a0_0, .bool a0_1, .bool a0_2, .int .i64 a0_3, .string a0_4, .bool a0_5, .int .i64 a0_6, .string a0_7] 41 (0, 0)) (by (with_reducible repeat (first | refine blk_drewN ?_ _ | refine blk_drew ?_ | refine blk_alloc ?_ _)); exact BK145.out) hb); have n1_ := Aside0.mk (blk_below (g := gb146) (o := .cells #[.bool a1_0, .bool a1_1, .bool a1_2, .int .i64 a1_3, .string a1_4, .bool a1_5, .int .i64 a1_6, .string a1_7] 41 (0, 0)) (by (with_reducible repeat (first | refine blk_drewN ?_ _ | refine blk_drew ?_ | refine blk_alloc ?_ _)); exact BK146.out) hb); have n2_ := Aside0.mk (blk_below (g := gb147) (o := .cells #[.bool false, .bool false, .bool false, .int .i64 0, .string (⟨#[]⟩ : ByteArray), .bool false, .int .i64 0, .string (⟨#[]⟩ : ByteArray)] 41 (0, 0)) (by (with_reducible repeat (first | refine blk_drewN ?_ _ | refine blk_drew ?_ | refine blk_alloc ?_ _)); exact BK147.out) hb); have n3_ := Aside0.mk (blk_below (g := gb148) (o := .cells #[.bool x149000_18, .bool true, .bool x149002_1, .int .i64 x149003_1, .string x149004_1, .bool x149005_1, .int .i64 x149006_1, .string x149007_1] 41 (0, 0)) (by (with_reducible repeat (first | refine blk_drewN ?_ _ | refine blk_drew ?_ | refine blk_alloc ?_ _)); exact BK148.out) hb); have n4_ := Aside0.mk (blk_below (g := gb149) (o := .cells #[.bool (pick2 x12_1 a0_0 a1_0), .bool (pick2 x12_1 a0_1 a1_1), .bool (pick2 x12_1 a0_2 a1_2), .int .i64 (pick2 x12_1 a0_3 a1_3), .string (pick2 x12_1 a0_4 a1_4), .bool (pick2 x12_1 a0_5 a1_5), .int .i64 (pick2 x12_1 a0_6 a1_6), .string (pick2 x12_1 a0_7 a1_7)] 41 (0, 0)) (by (with_reducible repeat (first | refine blk_drewN ?_ _ | refine blk_drew ?_ | refine blk_alloc ?_ _)); exact BK149.out) hb); have n5_ := Aside0.mk (below_step (by repeat (first | (with_reducible first | exact HB.out | apply below_alloc | apply pw_below_drewN | apply below_drew1 | refine below_set ?_ GE145.out | refine below_set ?_ GE146.out | refine below_set ?_ GE147.out | refine below_set ?_ GE148.out | refine below_set ?_ GE149.out) | exact HB.out)) hb); clear BK145; clear BK146; clear BK147; clear BK148; clear BK149; clear HB; have BK145 := n0_; have BK146 := n1_; have BK147 := n2_; have BK148 := n3_; have BK149 := n4_; have HB := n5_; clear n0_ n1_ n2_ n3_ n4_ n5_; (try clear hb); (try clear hb2); (try clear hk); (try clear hi); have hcz52_0 : w51.cell? ⟨gb149, 0, none⟩ = some (.bool (pick2 x12_1 a0_0 a1_0)) := (blk_cell BK149.out 0).trans rfl; have hcz52_1 : w51.cell? ⟨gb149, 1, none⟩ = some (.bool (pick2 x12_1 a0_1 a1_1)) := (blk_cell BK149.out 1).trans rfl; have hcz52_2 : w51.cell? ⟨gb149, 2, none⟩ = some (.bool (pick2 x12_1 a0_2 a1_2)) := (blk_cell BK149.out 2).trans rfl; have hcz52_3 : w51.cell? ⟨gb149, 3, none⟩ = some (.int .i64 (pick2 x12_1 a0_3 a1_3)) := (blk_cell BK149.out 3).trans rfl; have hcz52_4 : w51.cell? ⟨gb149, 4, none⟩ = some (.string (pick2 x12_1 a0_4 a1_4)) := (blk_cell BK149.out 4).trans rfl; have hcz52_5 : w51.cell? ⟨gb149, 5, none⟩ = some (.bool (pick2 x12_1 a0_5 a1_5)) := (blk_cell BK149.out 5).trans rfl; have hcz52_6 : w51.cell? ⟨gb149, 6, none⟩ = some (.int .i64 (pick2 x12_1 a0_6 a1_6)) := (blk_cell BK149.out 6).trans rfl; have hcz52_7 : w51.cell? ⟨gb149, 7, none⟩ = some (.string (pick2 x12_1 a0_7 a1_7)) := (blk_cell BK149.out 7).trans rfl; have hfz52_0 := blk_frozen BK149.out 0; have hfz52_1 := blk_frozen BK149.out 1; have hfz52_2 := blk_frozen BK149.out 2; have hfz52_3 := blk_frozen BK149.out 3; have hfz52_4 := blk_frozen BK149.out 4; have hfz52_5 := blk_frozen BK149.out 5; have hfz52_6 := blk_frozen BK149.out 6; have hfz52_7 := blk_frozen BK149.out 7; have hnb53 := NB148_145.out; have hnc53 := NB145_148.out; have hnb54 := NB148_146.out; have hnc54 := NB146_148.out; have hnb55 := NB148_147.out; have hnc55 := NB147_148.out; have hcz56_0 : w51.cell? ⟨gb148, 0, none⟩ = some (.bool x149000_18) := (blk_cell BK148.out 0).trans rfl; have hcz56_1 : w51.cell? ⟨gb148, 1, none⟩ = some (.bool true) := (blk_cell BK148.out 1).trans rfl; have hcz56_2 : w51.cell? ⟨gb148, 2, none⟩ = some (.bool x149002_1) := (blk_cell BK148.out 2).trans rfl; have hcz56_3 : w51.cell? ⟨gb148, 3, none⟩ = some (.int .i64 x149003_1) := (blk_cell BK148.out 3).trans rfl; have hcz56_4 : w51.cell? ⟨gb148, 4, none⟩ = some (.string x149004_1) := (blk_cell BK148.out 4).trans rfl; have hcz56_5 : w51.cell? ⟨gb148, 5, none⟩ = some (.bool x149005_1) := (blk_cell BK148.out 5).trans rfl; have hcz56_6 : w51.cell? ⟨gb148, 6, none⟩ = some (.int .i64 x149006_1) := (blk_cell BK148.out 6).trans rfl; have hcz56_7 : w51.cell? ⟨gb148, 7, none⟩ = some (.string x149007_1) := (blk_cell BK148.out 7).trans rfl; have hfz56_0 := blk_frozen BK148.out 0; have hfz56_1 := blk_frozen BK148.out 1; have hfz56_2 := blk_frozen BK148.out 2; have hfz56_3 := blk_frozen BK148.out 3; have hfz56_4 := blk_frozen BK148.out 4; have hfz56_5 := blk_frozen BK148.out 5; have hfz56_6 := blk_frozen BK148.out 6; have hfz56_7 := blk_frozen BK148.out 7) | ((with_reducible refine gate_callee (f := 45) rfl ?_); refine goesL_ (some 38) rfl rfl Try.func45 (by kernel_rfl) rfl #[.agg #[.bool t152, .int .i64 t153, .string t154], .agg #[.bool x149002_1, .int .i64 x149003_1, .string x149004_1]] rfl (by (try simp only [List.map_toArray, List.map_cons, List.map_nil]); first | done | rfl | (simp only [List.length_drop, List.length_take]; rfl) | (simp only [*]; first | done | rfl) | (simp [*]; first | done | rfl)) ?_; (with_reducible refine (kinds_Compare_c.calls t152 t153 t154 x149002_1 x149003_1 x149004_1 t158 _ A44.out).mono ?_); rintro e w57 ⟨rfl, hb⟩; refine ⟨_, rfl, ?_⟩; have n0_ := Aside0.mk (blk_below (g := gb145) (o := .cells #[.bool a0_0, .bool a0_1, .bool a0_2, .int .i64 a0_3, .string a0_4, .bool a0_5, .int .i64 a0_6, .string a0_7] 41 (0, 0)) (by refine blk_far ?_ NB145_149.out _; refine blk_far ?_ NB145_149.out _; refine blk_far ?_ NB145_149.out _; refine blk_far ?_ NB145_149.out _; refine blk_far ?_ NB145_149.out _; refine blk_far ?_ NB145_149.out _; refine blk_far ?_ NB145_149.out _; refine blk_far ?_ NB145_149.out _; (with_reducible repeat (first | refine blk_drewN ?_ _ | refine blk_drew ?_ | refine blk_alloc ?_ _)); exact BK145.out) hb); have n1_ := Aside0.mk (blk_below (g := gb146) (o := .cells #[.bool a1_0, .bool a1_1, .bool a1_2, .int .i64 a1_3, .string a1_4, .bool a1_5, .int .i64 a1_6, .string a1_7] 41 (0, 0)) (by refine blk_far ?_ NB146_149.out _; refine blk_far ?_ NB146_149.out _; refine blk_far ?_ NB146_149.out _; refine blk_far ?_ NB146_149.out _; refine blk_far ?_ NB146_149.out _; refine blk_far ?_ NB146_149.out _; refine blk_far ?_ NB146_149.out _; refine blk_far ?_ NB146_149.out _; (with_reducible repeat (first | refine blk_drewN ?_ _ | refine blk_drew ?_ | refine blk_alloc ?_ _)); exact BK146.out) hb); have n2_ := Aside0.mk (blk_below (g := gb147) (o := .cells #[.bool false, .bool false, .bool false, .int .i64 0, .string (⟨#[]⟩ : ByteArray), .bool false, .int .i64 0, .string (⟨#[]⟩ : ByteArray)] 41 (0, 0)) (by refine blk_far ?_ NB147_149.out _; refine blk_far ?_ NB147_149.out _; refine blk_far ?_ NB147_149.out _; refine blk_far ?_ NB147_149.out _; refine blk_far ?_ NB147_149.out _; refine blk_far ?_ NB147_149.out _; refine blk_far ?_ NB147_149.out _; refine blk_far ?_ NB147_149.out _; (with_reducible repeat (first | refine blk_drewN ?_ _ | refine blk_drew ?_ | refine blk_alloc ?_ _)); exact BK147.out) hb); have n3_ := Aside0.mk (blk_below (g := gb148) (o := .cells #[.bool x149000_18, .bool true, .bool x149002_1, .int .i64 x149003_1, .string x149004_1, .bool x149005_1, .int .i64 x149006_1, .string x149007_1] 41 (0, 0)) (by refine blk_far ?_ NB148_149.out _; refine blk_far ?_ NB148_149.out _; refine blk_far ?_ NB148_149.out _; refine blk_far ?_ NB148_149.out _; refine blk_far ?_ NB148_149.out _; refine blk_far ?_ NB148_149.out _; refine blk_far ?_ NB148_149.out _; refine blk_far ?_ NB148_149.out _; (with_reducible repeat (first | refine blk_drewN ?_ _ | refine blk_drew ?_ | refine blk_alloc ?_ _)); exact BK148.out) hb); have n4_ := Aside0.mk (blk_below (g := gb149) (o := .cells #[.bool t150, .bool t151, .bool t152, .int .i64 t153, .string t154, .bool t155, .int .i64 t156, .string t157] 41 (0, 0)) (by refine blk_put (cs := #[.bool t150, .bool t151, .bool t152, .int .i64 t153, .string t154, .bool t155, .int .i64 t156, .string (pick2 x12_1 a0_7 a1_7)]) ?_ 7 _ rfl; refine blk_put (cs := #[.bool t150, .bool t151, .bool t152, .int .i64 t153, .string t154, .bool t155, .int .i64 (pick2 x12_1 a0_6 a1_6), .string (pick2 x12_1 a0_7 a1_7)]) ?_ 6 _ rfl; refine blk_put (cs := #[.bool t150, .bool t151, .bool t152, .int .i64 t153, .string t154, .bool (pick2 x12_1 a0_5 a1_5), .int .i64 (pick2 x12_1 a0_6 a1_6), .string (pick2 x12_1 a0_7 a1_7)]) ?_ 5 _ rfl; refine blk_put (cs := #[.bool t150, .bool t151, .bool t152, .int .i64 t153, .string (pick2 x12_1 a0_4 a1_4), .bool (pick2 x12_1 a0_5 a1_5), .int .i64 (pick2 x12_1 a0_6 a1_6), .string (pick2 x12_1 a0_7 a1_7)]) ?_ 4 _ rfl; refine blk_put (cs := #[.bool t150, .bool t151, .bool t152, .int .i64 (pick2 x12_1 a0_3 a1_3), .string (pick2 x12_1 a0_4 a1_4), .bool (pick2 x12_1 a0_5 a1_5), .int .i64 (pick2 x12_1 a0_6 a1_6), .string (pick2 x12_1 a0_7 a1_7)]) ?_ 3 _ rfl; refine blk_put (cs := #[.bool t150, .bool t151, .bool (pick2 x12_1 a0_2 a1_2), .int .i64 (pick2 x12_1 a0_3 a1_3), .string (pick2 x12_1 a0_4 a1_4), .bool (pick2 x12_1 a0_5 a1_5), .int .i64 (pick2 x12_1 a0_6 a1_6), .string (pick2 x12_1 a0_7 a1_7)]) ?_ 2 _ rfl; refine blk_put (cs := #[.bool t150, .bool (pick2 x12_1 a0_1 a1_1), .bool (pick2 x12_1 a0_2 a1_2), .int .i64 (pick2 x12_1 a0_3 a1_3), .string (pick2 x12_1 a0_4 a1_4), .bool (pick2 x12_1 a0_5 a1_5), .int .i64 (pick2 x12_1 a0_6 a1_6), .string (pick2 x12_1 a0_7 a1_7)]) ?_ 1 _ rfl; refine blk_put (cs := #[.bool (pick2 x12_1 a0_0 a1_0), .bool (pick2 x12_1 a0_1 a1_1), .bool (pick2 x12_1 a0_2 a1_2), .int .i64 (pick2 x12_1 a0_3 a1_3), .string (pick2 x12_1 a0_4 a1_4), .bool (pick2 x12_1 a0_5 a1_5), .int .i64 (pick2 x12_1 a0_6 a1_6), .string (pick2 x12_1 a0_7 a1_7)]) ?_ 0 _ rfl; (with_reducible repeat (first | refine blk_drewN ?_ _ | refine blk_drew ?_ | refine blk_alloc ?_ _)); exact BK149.out) hb); have n5_ := Aside0.mk (below_step (by repeat (first | (with_reducible first | exact HB.out | apply below_alloc | apply pw_below_drewN | apply below_drew1 | refine below_set ?_ GE145.out | refine below_set ?_ GE146.out | refine below_set ?_ GE147.out | refine below_set ?_ GE148.out | refine below_set ?_ GE149.out) | exact HB.out)) hb); clear BK145; clear BK146; clear BK147; clear BK148; clear BK149; clear HB; have BK145 := n0_; have BK146 := n1_; have BK147 := n2_; have BK148 := n3_; have BK149 := n4_; have HB := n5_; clear n0_ n1_ n2_ n3_ n4_ n5_; (try clear hb); (try clear hb2); (try clear hk); (try clear hi)))
         (try simp only [Act.put, List.setIfInBounds_toArray, List.set_cons_zero, List.set_cons_succ])
         go_cut [] (fun wc => ∃ (kq : Nat) (x149002_44 : Bool) (x149003_44 : Int) (x149004_44 : ByteArray), Aside0 (zone_Join.j2 kq x12_1 a0_0 a0_1 a0_2 a0_3 a0_4 a0_5 a0_6 a0_7 a1_0 a1_1 a1_2 a1_3 a1_4 a1_5 a1_6 a1_7 x149000_18 true x149002_44 x149003_44 x149004_44 x149005_1 x149006_1 x149007_1 t150 t151 t152 t153 t154 t155 t156 t157 = some (r1, r2, r3, r4, r5, r6, r7, r8)) ∧ Aside0 (kq ≤ kj18) ∧ Aside0 (wc.heap[gb145]? = some (.cells #[.bool a0_0, .bool a0_1, .bool a0_2, .int .i64 a0_3, .string a0_4, .bool a0_5, .int .i64 a0_6, .string a0_7] 41 (0, 0))) ∧ Aside0 (wc.heap[gb146]? = some (.cells #[.bool a1_0, .bool a1_1, .bool a1_2, .int .i64 a1_3, .string a1_4, .bool a1_5, .int .i64 a1_6, .string a1_7] 41 (0, 0))) ∧ Aside0 (wc.heap[gb147]? = some (.cells #[.bool false, .bool false, .bool false, .int .i64 0, .string (⟨#[]⟩ : ByteArray), .bool false, .int .i64 0, .string (⟨#[]⟩ : ByteArray)] 41 (0, 0))) ∧ Aside0 (wc.heap[gb148]? = some (.cells #[.bool x149000_18, .bool true, .bool x149002_44, .int .i64 x149003_44, .string x149004_44, .bool x149005_1, .int .i64 x149006_1, .string x149007_1] 41 (0, 0))) ∧ Aside0 (wc.heap[gb149]? = some (.cells #[.bool t150, .bool t151, .bool t152, .int .i64 t153, .string t154, .bool t155, .int .i64 t156, .string t157] 41 (0, 0))) ∧ Aside0 (Below w.heap.size w wc))
         case first =>
          have H := HC45.out
          clear HC45
          by_cases c58 : t158 < 0
          ·rw [if_pos c58] at H
           have c58b0 : decide (t158 < 0) = true := decide_eq_true c58
           clear c58
           (first | rw [c58b0] | (simp only [i64_w, i32_w]; rw [c58b0]) | skip)
           have H' := Aside0.mk H
           clear H
           have hnb59 := NB149_145.out
           have hnc59 := NB145_149.out
           have hnb60 := NB149_146.out
           have hnc60 := NB146_149.out
           have hnb61 := NB149_147.out
           have hnc61 := NB147_149.out
           have hnb62 := NB149_148.out
           have hnc62 := NB148_149.out
           have hcz63_0 : w57.cell? ⟨gb149, 0, none⟩ = some (.bool t150) := (blk_cell BK149.out 0).trans rfl
           have hcz63_1 : w57.cell? ⟨gb149, 1, none⟩ = some (.bool t151) := (blk_cell BK149.out 1).trans rfl
           have hcz63_2 : w57.cell? ⟨gb149, 2, none⟩ = some (.bool t152) := (blk_cell BK149.out 2).trans rfl
           have hcz63_3 : w57.cell? ⟨gb149, 3, none⟩ = some (.int .i64 t153) := (blk_cell BK149.out 3).trans rfl
           have hcz63_4 : w57.cell? ⟨gb149, 4, none⟩ = some (.string t154) := (blk_cell BK149.out 4).trans rfl
           have hcz63_5 : w57.cell? ⟨gb149, 5, none⟩ = some (.bool t155) := (blk_cell BK149.out 5).trans rfl
           have hcz63_6 : w57.cell? ⟨gb149, 6, none⟩ = some (.int .i64 t156) := (blk_cell BK149.out 6).trans rfl
           have hcz63_7 : w57.cell? ⟨gb149, 7, none⟩ = some (.string t157) := (blk_cell BK149.out 7).trans rfl
           have hfz63_0 := blk_frozen BK149.out 0
           have hfz63_1 := blk_frozen BK149.out 1
           have hfz63_2 := blk_frozen BK149.out 2
           have hfz63_3 := blk_frozen BK149.out 3
           have hfz63_4 := blk_frozen BK149.out 4
           have hfz63_5 := blk_frozen BK149.out 5
           have hfz63_6 := blk_frozen BK149.out 6
           have hfz63_7 := blk_frozen BK149.out 7
           have hnb64 := NB148_145.out
           have hnc64 := NB145_148.out
           have hnb65 := NB148_146.out
           have hnc65 := NB146_148.out
           have hnb66 := NB148_147.out
           have hnc66 := NB147_148.out
           have hcz67_0 : w57.cell? ⟨gb148, 0, none⟩ = some (.bool x149000_18) := (blk_cell BK148.out 0).trans rfl
           have hcz67_1 : w57.cell? ⟨gb148, 1, none⟩ = some (.bool true) := (blk_cell BK148.out 1).trans rfl
           have hcz67_2 : w57.cell? ⟨gb148, 2, none⟩ = some (.bool x149002_1) := (blk_cell BK148.out 2).trans rfl
           have hcz67_3 : w57.cell? ⟨gb148, 3, none⟩ = some (.int .i64 x149003_1) := (blk_cell BK148.out 3).trans rfl
           have hcz67_4 : w57.cell? ⟨gb148, 4, none⟩ = some (.string x149004_1) := (blk_cell BK148.out 4).trans rfl
           have hcz67_5 : w57.cell? ⟨gb148, 5, none⟩ = some (.bool x149005_1) := (blk_cell BK148.out 5).trans rfl
           have hcz67_6 : w57.cell? ⟨gb148, 6, none⟩ = some (.int .i64 x149006_1) := (blk_cell BK148.out 6).trans rfl
           have hcz67_7 : w57.cell? ⟨gb148, 7, none⟩ = some (.string x149007_1) := (blk_cell BK148.out 7).trans rfl
           have hfz67_0 := blk_frozen BK148.out 0
           have hfz67_1 := blk_frozen BK148.out 1
           have hfz67_2 := blk_frozen BK148.out 2
           have hfz67_3 := blk_frozen BK148.out 3
           have hfz67_4 := blk_frozen BK148.out 4
           have hfz67_5 := blk_frozen BK148.out 5
           have hfz67_6 := blk_frozen BK148.out 6
           have hfz67_7 := blk_frozen BK148.out 7
           go_wp2
           go_meet
           case rel => exact ⟨_, (t152), (t153), (t154), H', ⟨by have := HK1.out; have := HJ18.out; first | omega | exact Nat.le_refl _⟩, ⟨by refine blk_far ?_ NB145_148.out _; refine blk_far ?_ NB145_148.out _; refine blk_far ?_ NB145_148.out _; (with_reducible repeat (first | refine blk_drewN ?_ _ | refine blk_drew ?_ | refine blk_alloc ?_ _)); exact BK145.out⟩, ⟨by refine blk_far ?_ NB146_148.out _; refine blk_far ?_ NB146_148.out _; refine blk_far ?_ NB146_148.out _; (with_reducible repeat (first | refine blk_drewN ?_ _ | refine blk_drew ?_ | refine blk_alloc ?_ _)); exact BK146.out⟩, ⟨by refine blk_far ?_ NB147_148.out _; refine blk_far ?_ NB147_148.out _; refine blk_far ?_ NB147_148.out _; (with_reducible repeat (first | refine blk_drewN ?_ _ | refine blk_drew ?_ | refine blk_alloc ?_ _)); exact BK147.out⟩, ⟨by refine blk_put (cs := #[.bool x149000_18, .bool true, .bool t152, .int .i64 t153, .string x149004_1, .bool x149005_1, .int .i64 x149006_1, .string x149007_1]) ?_ 4 _ rfl; refine blk_put (cs := #[.bool x149000_18, .bool true, .bool t152, .int .i64 x149003_1, .string x149004_1, .bool x149005_1, .int .i64 x149006_1, .string x149007_1]) ?_ 3 _ rfl; refine blk_put (cs := #[.bool x149000_18, .bool true, .bool x149002_1, .int .i64 x149003_1, .string x149004_1, .bool x149005_1, .int .i64 x149006_1, .string x149007_1]) ?_ 2 _ rfl; (with_reducible repeat (first | refine blk_drewN ?_ _ | refine blk_drew ?_ | refine blk_alloc ?_ _)); exact BK148.out⟩, ⟨by refine blk_far ?_ NB149_148.out _; refine blk_far ?_ NB149_148.out _; refine blk_far ?_ NB149_148.out _; (with_reducible repeat (first | refine blk_drewN ?_ _ | refine blk_drew ?_ | refine blk_alloc ?_ _)); exact BK149.out⟩, ⟨by repeat (first | (with_reducible first | exact HB.out | apply below_alloc | apply pw_below_drewN | apply below_drew1 | refine below_set ?_ GE145.out | refine below_set ?_ GE146.out | refine below_set ?_ GE147.out | refine below_set ?_ GE148.out | refine below_set ?_ GE149.out) | exact HB.out)⟩⟩
          ·rw [if_neg c58] at H
           have c58b0 : decide (t158 < 0) = false := decide_eq_false c58
           clear c58
           (first | rw [c58b0] | (simp only [i64_w, i32_w]; rw [c58b0]) | skip)
           have H' := Aside0.mk H
           clear H
           go_wp2
           go_meet
           case rel => exact ⟨_, (x149002_1), (x149003_1), (x149004_1), H', ⟨by have := HK1.out; have := HJ18.out; first | omega | exact Nat.le_refl _⟩, ⟨by (with_reducible repeat (first | refine blk_drewN ?_ _ | refine blk_drew ?_ | refine blk_alloc ?_ _)); exact BK145.out⟩, ⟨by (with_reducible repeat (first | refine blk_drewN ?_ _ | refine blk_drew ?_ | refine blk_alloc ?_ _)); exact BK146.out⟩, ⟨by (with_reducible repeat (first | refine blk_drewN ?_ _ | refine blk_drew ?_ | refine blk_alloc ?_ _)); exact BK147.out⟩, ⟨by (with_reducible repeat (first | refine blk_drewN ?_ _ | refine blk_drew ?_ | refine blk_alloc ?_ _)); exact BK148.out⟩, ⟨by (with_reducible repeat (first | refine blk_drewN ?_ _ | refine blk_drew ?_ | refine blk_alloc ?_ _)); exact BK149.out⟩, ⟨by repeat (first | (with_reducible first | exact HB.out | apply below_alloc | apply pw_below_drewN | apply below_drew1 | refine below_set ?_ GE145.out | refine below_set ?_ GE146.out | refine below_set ?_ GE147.out | refine below_set ?_ GE148.out | refine below_set ?_ GE149.out) | exact HB.out)⟩⟩
         case rest =>
          clear HC45
          try clear c1
          try clear p1
          try clear q1
          try clear hx1
          try clear c2
          try clear p2
          try clear c3
          try clear c4
          try clear c5
          try clear c6
          try clear p6
          try clear c7
          try clear c8
          try clear c9
          try clear c11
          try clear c12
          try clear c14
          try clear c16
          try clear c16b0
          try clear c17
          try clear c17b0
          try clear p18
          try clear q18
          try clear hx18
          try clear c21
          try clear c22
          try clear c23
          try clear c24
          try clear c25
          try clear c26
          try clear c27
          try clear c28
          try clear c29
          try clear c30
          try clear c32
          try clear c33
          try clear c34
          try clear c35
          try clear c37
          try clear c38
          try clear c39
          try clear c41
          try clear c41b0
          try clear c43
          try clear c45
          try clear c46
          try clear c47
          try clear c48
          try clear c49
          try clear c53
          try clear c54
          try clear c55
          try clear c58
          try clear c58b0
          try clear c59
          try clear c60
          try clear c61
          try clear c62
          try clear c64
          try clear p64
          try clear c65
          try clear c66
          try clear hcz10_0
          try clear hcz10_1
          try clear hcz10_2
          try clear hcz10_3
          try clear hcz10_4
          try clear hcz10_5
          try clear hcz10_6
          try clear hcz10_7
          try clear hcz13_0
          try clear hcz13_1
          try clear hcz13_2
          try clear hcz13_3
          try clear hcz13_4
          try clear hcz13_5
          try clear hcz13_6
          try clear hcz13_7
          try clear hcz15_0
          try clear hcz15_1
          try clear hcz15_2
          try clear hcz15_3
          try clear hcz15_4
          try clear hcz15_5
          try clear hcz15_6
          try clear hcz15_7
          try clear hcz25_0
          try clear hcz25_1
          try clear hcz25_2
          try clear hcz25_3
          try clear hcz25_4
          try clear hcz25_5
          try clear hcz25_6
          try clear hcz25_7
          try clear hcz31_0
          try clear hcz31_1
          try clear hcz31_2
          try clear hcz31_3
          try clear hcz31_4
          try clear hcz31_5
          try clear hcz31_6
          try clear hcz31_7
          try clear hcz36_0
          try clear hcz36_1
          try clear hcz36_2
          try clear hcz36_3
          try clear hcz36_4
          try clear hcz36_5
          try clear hcz36_6
          try clear hcz36_7
          try clear hcz40_0
          try clear hcz40_1
          try clear hcz40_2
          try clear hcz40_3
          try clear hcz40_4
          try clear hcz40_5
          try clear hcz40_6
          try clear hcz40_7
          try clear hcz50_0
          try clear hcz50_1
          try clear hcz50_2
          try clear hcz50_3
          try clear hcz50_4
          try clear hcz50_5
          try clear hcz50_6
          try clear hcz50_7
          try clear hcz52_0
          try clear hcz52_1
          try clear hcz52_2
          try clear hcz52_3
          try clear hcz52_4
          try clear hcz52_5
          try clear hcz52_6
          try clear hcz52_7
          try clear hcz56_0
          try clear hcz56_1
          try clear hcz56_2
          try clear hcz56_3
          try clear hcz56_4
          try clear hcz56_5
          try clear hcz56_6
          try clear hcz56_7
          try clear hcz63_0
          try clear hcz63_1
          try clear hcz63_2
          try clear hcz63_3
          try clear hcz63_4
          try clear hcz63_5
          try clear hcz63_6
          try clear hcz63_7
          try clear hcz67_0
          try clear hcz67_1
          try clear hcz67_2
          try clear hcz67_3
          try clear hcz67_4
          try clear hcz67_5
          try clear hcz67_6
          try clear hcz67_7
          try clear hfz10_0
          try clear hfz10_1
          try clear hfz10_2
          try clear hfz10_3
          try clear hfz10_4
          try clear hfz10_5
          try clear hfz10_6
          try clear hfz10_7
          try clear hfz13_0
          try clear hfz13_1
          try clear hfz13_2
          try clear hfz13_3
          try clear hfz13_4
          try clear hfz13_5
          try clear hfz13_6
          try clear hfz13_7
          try clear hfz15_0
          try clear hfz15_1
          try clear hfz15_2
          try clear hfz15_3
          try clear hfz15_4
          try clear hfz15_5
          try clear hfz15_6
          try clear hfz15_7
          try clear hfz25_0
          try clear hfz25_1
          try clear hfz25_2
          try clear hfz25_3
          try clear hfz25_4
          try clear hfz25_5
          try clear hfz25_6
          try clear hfz25_7
          try clear hfz31_0
          try clear hfz31_1
          try clear hfz31_2
          try clear hfz31_3
          try clear hfz31_4
          try clear hfz31_5
          try clear hfz31_6
          try clear hfz31_7
          try clear hfz36_0
          try clear hfz36_1
          try clear hfz36_2
          try clear hfz36_3
          try clear hfz36_4
          try clear hfz36_5
          try clear hfz36_6
          try clear hfz36_7
          try clear hfz40_0
          try clear hfz40_1
          try clear hfz40_2
          try clear hfz40_3
          try clear hfz40_4
          try clear hfz40_5
          try clear hfz40_6
          try clear hfz40_7
          try clear hfz50_0
          try clear hfz50_1
          try clear hfz50_2
          try clear hfz50_3
          try clear hfz50_4
          try clear hfz50_5
          try clear hfz50_6
          try clear hfz50_7
          try clear hfz52_0
          try clear hfz52_1
          try clear hfz52_2
          try clear hfz52_3
          try clear hfz52_4
          try clear hfz52_5
          try clear hfz52_6
          try clear hfz52_7
          try clear hfz56_0
          try clear hfz56_1
          try clear hfz56_2
          try clear hfz56_3
          try clear hfz56_4
          try clear hfz56_5
          try clear hfz56_6
          try clear hfz56_7
          try clear hfz63_0
          try clear hfz63_1
          try clear hfz63_2
          try clear hfz63_3
          try clear hfz63_4
          try clear hfz63_5
          try clear hfz63_6
          try clear hfz63_7
          try clear hfz67_0
          try clear hfz67_1
          try clear hfz67_2
          try clear hfz67_3
          try clear hfz67_4
          try clear hfz67_5
          try clear hfz67_6
          try clear hfz67_7
          try clear p1
          try clear p18
          try clear p2
          try clear q1
          try clear q18
          obtain ⟨kq, x149002_44, x149003_44, x149004_44, HA, HJ44, BK145, BK146, BK147, BK148, BK149, HB⟩ := hcut
          cases kq with
          | zero => exact absurd HA.out (by simp [zone_Join.j2])
          | succ kj44 =>
           have H := HA.out
           clear HA
           simp only [zone_Join.j2] at H
           replace H := Option.bind_eq_some_iff.mp H
           obtain ⟨t159, A680, H⟩ := H
           replace H : (if t159 > 0 then (zone_Join.l0 kj44 (wrap64 (x12_1 + 1)) a0_0 a0_1 a0_2 a0_3 a0_4 a0_5 a0_6 a0_7 a1_0 a1_1 a1_2 a1_3 a1_4 a1_5 a1_6 a1_7 x149000_18 true x149002_44 x149003_44 x149004_44 t155 t156 t157) else (zone_Join.l0 kj44 (wrap64 (x12_1 + 1)) a0_0 a0_1 a0_2 a0_3 a0_4 a0_5 a0_6 a0_7 a1_0 a1_1 a1_2 a1_3 a1_4 a1_5 a1_6 a1_7 x149000_18 true x149002_44 x149003_44 x149004_44 x149005_1 x149006_1 x149007_1)) = some (r1, r2, r3, r4, r5, r6, r7, r8) := H
           have A68 := Aside0.mk A680
           clear A680
           by_cases c69 : t159 > 0
           ·rw [if_pos c69] at H
            have c69b0 : decide (0 < t159) = true := decide_eq_true c69
            clear c69
            have H' := Aside0.mk H
            clear H
            have hnb70 := NB149_145.out
            have hnc70 := NB145_149.out
            have hnb71 := NB149_146.out
            have hnc71 := NB146_149.out
            have hnb72 := NB149_147.out
            have hnc72 := NB147_149.out
            have hnb73 := NB149_148.out
            have hnc73 := NB148_149.out
            have hcz74_0 : wc.cell? ⟨gb149, 0, none⟩ = some (.bool t150) := (blk_cell BK149.out 0).trans rfl
            have hcz74_1 : wc.cell? ⟨gb149, 1, none⟩ = some (.bool t151) := (blk_cell BK149.out 1).trans rfl
            have hcz74_2 : wc.cell? ⟨gb149, 2, none⟩ = some (.bool t152) := (blk_cell BK149.out 2).trans rfl
            have hcz74_3 : wc.cell? ⟨gb149, 3, none⟩ = some (.int .i64 t153) := (blk_cell BK149.out 3).trans rfl
            have hcz74_4 : wc.cell? ⟨gb149, 4, none⟩ = some (.string t154) := (blk_cell BK149.out 4).trans rfl
            have hcz74_5 : wc.cell? ⟨gb149, 5, none⟩ = some (.bool t155) := (blk_cell BK149.out 5).trans rfl
            have hcz74_6 : wc.cell? ⟨gb149, 6, none⟩ = some (.int .i64 t156) := (blk_cell BK149.out 6).trans rfl
            have hcz74_7 : wc.cell? ⟨gb149, 7, none⟩ = some (.string t157) := (blk_cell BK149.out 7).trans rfl
            have hfz74_0 := blk_frozen BK149.out 0
            have hfz74_1 := blk_frozen BK149.out 1
            have hfz74_2 := blk_frozen BK149.out 2
            have hfz74_3 := blk_frozen BK149.out 3
            have hfz74_4 := blk_frozen BK149.out 4
            have hfz74_5 := blk_frozen BK149.out 5
            have hfz74_6 := blk_frozen BK149.out 6
            have hfz74_7 := blk_frozen BK149.out 7
            have hnb75 := NB148_145.out
            have hnc75 := NB145_148.out
            have hnb76 := NB148_146.out
            have hnc76 := NB146_148.out
            have hnb77 := NB148_147.out
            have hnc77 := NB147_148.out
            have hcz78_0 : wc.cell? ⟨gb148, 0, none⟩ = some (.bool x149000_18) := (blk_cell BK148.out 0).trans rfl
            have hcz78_1 : wc.cell? ⟨gb148, 1, none⟩ = some (.bool true) := (blk_cell BK148.out 1).trans rfl
            have hcz78_2 : wc.cell? ⟨gb148, 2, none⟩ = some (.bool x149002_44) := (blk_cell BK148.out 2).trans rfl
            have hcz78_3 : wc.cell? ⟨gb148, 3, none⟩ = some (.int .i64 x149003_44) := (blk_cell BK148.out 3).trans rfl
            have hcz78_4 : wc.cell? ⟨gb148, 4, none⟩ = some (.string x149004_44) := (blk_cell BK148.out 4).trans rfl
            have hcz78_5 : wc.cell? ⟨gb148, 5, none⟩ = some (.bool x149005_1) := (blk_cell BK148.out 5).trans rfl
            have hcz78_6 : wc.cell? ⟨gb148, 6, none⟩ = some (.int .i64 x149006_1) := (blk_cell BK148.out 6).trans rfl
            have hcz78_7 : wc.cell? ⟨gb148, 7, none⟩ = some (.string x149007_1) := (blk_cell BK148.out 7).trans rfl
            have hfz78_0 := blk_frozen BK148.out 0
            have hfz78_1 := blk_frozen BK148.out 1
            have hfz78_2 := blk_frozen BK148.out 2
            have hfz78_3 := blk_frozen BK148.out 3
            have hfz78_4 := blk_frozen BK148.out 4
            have hfz78_5 := blk_frozen BK148.out 5
            have hfz78_6 := blk_frozen BK148.out 6
            have hfz78_7 := blk_frozen BK148.out 7
            go_wp2_with (first | ((with_reducible refine gate_callee (f := 45) rfl ?_); refine goesL_ (some 47) rfl rfl Try.func45 (by kernel_rfl) rfl #[.agg #[.bool t155, .int .i64 t156, .string t157], .agg #[.bool x149005_1, .int .i64 x149006_1, .string x149007_1]] rfl (by (try simp only [List.map_toArray, List.map_cons, List.map_nil]); first | done | rfl | (simp only [List.length_drop, List.length_take]; rfl)) ?_; (with_reducible refine (kinds_Compare_c.calls t155 t156 t157 x149005_1 x149006_1 x149007_1 t159 _ A68.out).mono ?_); rintro e w79 ⟨rfl, hb⟩; refine ⟨_, rfl, ?_⟩; have n0_ := Aside0.mk (blk_below (g := gb145) (o := .cells #[.bool a0_0, .bool a0_1, .bool a0_2, .int .i64 a0_3, .string a0_4, .bool a0_5, .int .i64 a0_6, .string a0_7] 41 (0, 0)) (by (with_reducible repeat (first | refine blk_drewN ?_ _ | refine blk_drew ?_ | refine blk_alloc ?_ _)); exact BK145.out) hb); have n1_ := Aside0.mk (blk_below (g := gb146) (o := .cells #[.bool a1_0, .bool a1_1, .bool a1_2, .int .i64 a1_3, .string a1_4, .bool a1_5, .int .i64 a1_6, .string a1_7] 41 (0, 0)) (by (with_reducible repeat (first | refine blk_drewN ?_ _ | refine blk_drew ?_ | refine blk_alloc ?_ _)); exact BK146.out) hb); have n2_ := Aside0.mk (blk_below (g := gb147) (o := .cells #[.bool false, .bool false, .bool false, .int .i64 0, .string (⟨#[]⟩ : ByteArray), .bool false, .int .i64 0, .string (⟨#[]⟩ : ByteArray)] 41 (0, 0)) (by (with_reducible repeat (first | refine blk_drewN ?_ _ | refine blk_drew ?_ | refine blk_alloc ?_ _)); exact BK147.out) hb); have n3_ := Aside0.mk (blk_below (g := gb148) (o := .cells #[.bool x149000_18, .bool true, .bool x149002_44, .int .i64 x149003_44, .string x149004_44, .bool x149005_1, .int .i64 x149006_1, .string x149007_1] 41 (0, 0)) (by (with_reducible repeat (first | refine blk_drewN ?_ _ | refine blk_drew ?_ | refine blk_alloc ?_ _)); exact BK148.out) hb); have n4_ := Aside0.mk (blk_below (g := gb149) (o := .cells #[.bool t150, .bool t151, .bool t152, .int .i64 t153, .string t154, .bool t155, .int .i64 t156, .string t157] 41 (0, 0)) (by (with_reducible repeat (first | refine blk_drewN ?_ _ | refine blk_drew ?_ | refine blk_alloc ?_ _)); exact BK149.out) hb); have n5_ := Aside0.mk (below_step (by repeat (first | (with_reducible first | exact HB.out | apply below_alloc | apply pw_below_drewN | apply below_drew1 | refine below_set ?_ GE145.out | refine below_set ?_ GE146.out | refine below_set ?_ GE147.out | refine below_set ?_ GE148.out | refine below_set ?_ GE149.out) | exact HB.out)) hb); clear BK145; clear BK146; clear BK147; clear BK148; clear BK149; clear HB; have BK145 := n0_; have BK146 := n1_; have BK147 := n2_; have BK148 := n3_; have BK149 := n4_; have HB := n5_; clear n0_ n1_ n2_ n3_ n4_ n5_; (try clear hb); (try clear hb2); (try clear hk); (try clear hi); have hcz80_0 : w79.cell? ⟨gb149, 0, none⟩ = some (.bool t150) := (blk_cell BK149.out 0).trans rfl; have hcz80_1 : w79.cell? ⟨gb149, 1, none⟩ = some (.bool t151) := (blk_cell BK149.out 1).trans rfl; have hcz80_2 : w79.cell? ⟨gb149, 2, none⟩ = some (.bool t152) := (blk_cell BK149.out 2).trans rfl; have hcz80_3 : w79.cell? ⟨gb149, 3, none⟩ = some (.int .i64 t153) := (blk_cell BK149.out 3).trans rfl; have hcz80_4 : w79.cell? ⟨gb149, 4, none⟩ = some (.string t154) := (blk_cell BK149.out 4).trans rfl; have hcz80_5 : w79.cell? ⟨gb149, 5, none⟩ = some (.bool t155) := (blk_cell BK149.out 5).trans rfl; have hcz80_6 : w79.cell? ⟨gb149, 6, none⟩ = some (.int .i64 t156) := (blk_cell BK149.out 6).trans rfl; have hcz80_7 : w79.cell? ⟨gb149, 7, none⟩ = some (.string t157) := (blk_cell BK149.out 7).trans rfl; have hfz80_0 := blk_frozen BK149.out 0; have hfz80_1 := blk_frozen BK149.out 1; have hfz80_2 := blk_frozen BK149.out 2; have hfz80_3 := blk_frozen BK149.out 3; have hfz80_4 := blk_frozen BK149.out 4; have hfz80_5 := blk_frozen BK149.out 5; have hfz80_6 := blk_frozen BK149.out 6; have hfz80_7 := blk_frozen BK149.out 7; have hcz81_0 : w79.cell? ⟨gb148, 0, none⟩ = some (.bool x149000_18) := (blk_cell BK148.out 0).trans rfl; have hcz81_1 : w79.cell? ⟨gb148, 1, none⟩ = some (.bool true) := (blk_cell BK148.out 1).trans rfl; have hcz81_2 : w79.cell? ⟨gb148, 2, none⟩ = some (.bool x149002_44) := (blk_cell BK148.out 2).trans rfl; have hcz81_3 : w79.cell? ⟨gb148, 3, none⟩ = some (.int .i64 x149003_44) := (blk_cell BK148.out 3).trans rfl; have hcz81_4 : w79.cell? ⟨gb148, 4, none⟩ = some (.string x149004_44) := (blk_cell BK148.out 4).trans rfl; have hcz81_5 : w79.cell? ⟨gb148, 5, none⟩ = some (.bool x149005_1) := (blk_cell BK148.out 5).trans rfl; have hcz81_6 : w79.cell? ⟨gb148, 6, none⟩ = some (.int .i64 x149006_1) := (blk_cell BK148.out 6).trans rfl; have hcz81_7 : w79.cell? ⟨gb148, 7, none⟩ = some (.string x149007_1) := (blk_cell BK148.out 7).trans rfl; have hfz81_0 := blk_frozen BK148.out 0; have hfz81_1 := blk_frozen BK148.out 1; have hfz81_2 := blk_frozen BK148.out 2; have hfz81_3 := blk_frozen BK148.out 3; have hfz81_4 := blk_frozen BK148.out 4; have hfz81_5 := blk_frozen BK148.out 5; have hfz81_6 := blk_frozen BK148.out 6; have hfz81_7 := blk_frozen BK148.out 7))
            go_roundg kj44
            case measure => have := HK1.out; have := HJ18.out; have := HJ44.out; omega
            case rel => exact ⟨(wrap64 (x12_1 + 1)), (x149000_18), (true), (x149002_44), (x149003_44), (x149004_44), (t155), (t156), (t157), (by first | rfl | (simp; done) | (simp [*]; done)), H', ⟨by have := HK1.out; have := HJ18.out; have := HJ44.out; omega⟩, ⟨by refine blk_far ?_ NB145_148.out _; refine blk_far ?_ NB145_148.out _; refine blk_far ?_ NB145_148.out _; (with_reducible repeat (first | refine blk_drewN ?_ _ | refine blk_drew ?_ | refine blk_alloc ?_ _)); exact BK145.out⟩, ⟨by refine blk_far ?_ NB146_148.out _; refine blk_far ?_ NB146_148.out _; refine blk_far ?_ NB146_148.out _; (with_reducible repeat (first | refine blk_drewN ?_ _ | refine blk_drew ?_ | refine blk_alloc ?_ _)); exact BK146.out⟩, ⟨by refine blk_far ?_ NB147_148.out _; refine blk_far ?_ NB147_148.out _; refine blk_far ?_ NB147_148.out _; (with_reducible repeat (first | refine blk_drewN ?_ _ | refine blk_drew ?_ | refine blk_alloc ?_ _)); exact BK147.out⟩, ⟨by refine blk_put (cs := #[.bool x149000_18, .bool true, .bool x149002_44, .int .i64 x149003_44, .string x149004_44, .bool t155, .int .i64 t156, .string x149007_1]) ?_ 7 _ rfl; refine blk_put (cs := #[.bool x149000_18, .bool true, .bool x149002_44, .int .i64 x149003_44, .string x149004_44, .bool t155, .int .i64 x149006_1, .string x149007_1]) ?_ 6 _ rfl; refine blk_put (cs := #[.bool x149000_18, .bool true, .bool x149002_44, .int .i64 x149003_44, .string x149004_44, .bool x149005_1, .int .i64 x149006_1, .string x149007_1]) ?_ 5 _ rfl; (with_reducible repeat (first | refine blk_drewN ?_ _ | refine blk_drew ?_ | refine blk_alloc ?_ _)); exact BK148.out⟩, ⟨by repeat (first | (with_reducible first | exact HB.out | apply below_alloc | apply pw_below_drewN | apply below_drew1 | refine below_set ?_ GE145.out | refine below_set ?_ GE146.out | refine below_set ?_ GE147.out | refine below_set ?_ GE148.out | refine below_set ?_ GE149.out) | exact HB.out)⟩⟩
           ·rw [if_neg c69] at H
            have c69b0 : decide (0 < t159) = false := decide_eq_false c69
            clear c69
            have H' := Aside0.mk H
            clear H
            have hnb82 := NB149_145.out
            have hnc82 := NB145_149.out
            have hnb83 := NB149_146.out
            have hnc83 := NB146_149.out
            have hnb84 := NB149_147.out
            have hnc84 := NB147_149.out
            have hnb85 := NB149_148.out
            have hnc85 := NB148_149.out
            have hcz86_0 : wc.cell? ⟨gb149, 0, none⟩ = some (.bool t150) := (blk_cell BK149.out 0).trans rfl
            have hcz86_1 : wc.cell? ⟨gb149, 1, none⟩ = some (.bool t151) := (blk_cell BK149.out 1).trans rfl
            have hcz86_2 : wc.cell? ⟨gb149, 2, none⟩ = some (.bool t152) := (blk_cell BK149.out 2).trans rfl
            have hcz86_3 : wc.cell? ⟨gb149, 3, none⟩ = some (.int .i64 t153) := (blk_cell BK149.out 3).trans rfl
            have hcz86_4 : wc.cell? ⟨gb149, 4, none⟩ = some (.string t154) := (blk_cell BK149.out 4).trans rfl
            have hcz86_5 : wc.cell? ⟨gb149, 5, none⟩ = some (.bool t155) := (blk_cell BK149.out 5).trans rfl
            have hcz86_6 : wc.cell? ⟨gb149, 6, none⟩ = some (.int .i64 t156) := (blk_cell BK149.out 6).trans rfl
            have hcz86_7 : wc.cell? ⟨gb149, 7, none⟩ = some (.string t157) := (blk_cell BK149.out 7).trans rfl
            have hfz86_0 := blk_frozen BK149.out 0
            have hfz86_1 := blk_frozen BK149.out 1
            have hfz86_2 := blk_frozen BK149.out 2
            have hfz86_3 := blk_frozen BK149.out 3
            have hfz86_4 := blk_frozen BK149.out 4
            have hfz86_5 := blk_frozen BK149.out 5
            have hfz86_6 := blk_frozen BK149.out 6
            have hfz86_7 := blk_frozen BK149.out 7
            have hnb87 := NB148_145.out
            have hnc87 := NB145_148.out
            have hnb88 := NB148_146.out
            have hnc88 := NB146_148.out
            have hnb89 := NB148_147.out
            have hnc89 := NB147_148.out
            have hcz90_0 : wc.cell? ⟨gb148, 0, none⟩ = some (.bool x149000_18) := (blk_cell BK148.out 0).trans rfl
            have hcz90_1 : wc.cell? ⟨gb148, 1, none⟩ = some (.bool true) := (blk_cell BK148.out 1).trans rfl
            have hcz90_2 : wc.cell? ⟨gb148, 2, none⟩ = some (.bool x149002_44) := (blk_cell BK148.out 2).trans rfl
            have hcz90_3 : wc.cell? ⟨gb148, 3, none⟩ = some (.int .i64 x149003_44) := (blk_cell BK148.out 3).trans rfl
            have hcz90_4 : wc.cell? ⟨gb148, 4, none⟩ = some (.string x149004_44) := (blk_cell BK148.out 4).trans rfl
            have hcz90_5 : wc.cell? ⟨gb148, 5, none⟩ = some (.bool x149005_1) := (blk_cell BK148.out 5).trans rfl
            have hcz90_6 : wc.cell? ⟨gb148, 6, none⟩ = some (.int .i64 x149006_1) := (blk_cell BK148.out 6).trans rfl
            have hcz90_7 : wc.cell? ⟨gb148, 7, none⟩ = some (.string x149007_1) := (blk_cell BK148.out 7).trans rfl
            have hfz90_0 := blk_frozen BK148.out 0
            have hfz90_1 := blk_frozen BK148.out 1
            have hfz90_2 := blk_frozen BK148.out 2
            have hfz90_3 := blk_frozen BK148.out 3
            have hfz90_4 := blk_frozen BK148.out 4
            have hfz90_5 := blk_frozen BK148.out 5
            have hfz90_6 := blk_frozen BK148.out 6
            have hfz90_7 := blk_frozen BK148.out 7
            go_wp2_with (first | ((with_reducible refine gate_callee (f := 45) rfl ?_); refine goesL_ (some 47) rfl rfl Try.func45 (by kernel_rfl) rfl #[.agg #[.bool t155, .int .i64 t156, .string t157], .agg #[.bool x149005_1, .int .i64 x149006_1, .string x149007_1]] rfl (by (try simp only [List.map_toArray, List.map_cons, List.map_nil]); first | done | rfl | (simp only [List.length_drop, List.length_take]; rfl)) ?_; (with_reducible refine (kinds_Compare_c.calls t155 t156 t157 x149005_1 x149006_1 x149007_1 t159 _ A68.out).mono ?_); rintro e w91 ⟨rfl, hb⟩; refine ⟨_, rfl, ?_⟩; have n0_ := Aside0.mk (blk_below (g := gb145) (o := .cells #[.bool a0_0, .bool a0_1, .bool a0_2, .int .i64 a0_3, .string a0_4, .bool a0_5, .int .i64 a0_6, .string a0_7] 41 (0, 0)) (by (with_reducible repeat (first | refine blk_drewN ?_ _ | refine blk_drew ?_ | refine blk_alloc ?_ _)); exact BK145.out) hb); have n1_ := Aside0.mk (blk_below (g := gb146) (o := .cells #[.bool a1_0, .bool a1_1, .bool a1_2, .int .i64 a1_3, .string a1_4, .bool a1_5, .int .i64 a1_6, .string a1_7] 41 (0, 0)) (by (with_reducible repeat (first | refine blk_drewN ?_ _ | refine blk_drew ?_ | refine blk_alloc ?_ _)); exact BK146.out) hb); have n2_ := Aside0.mk (blk_below (g := gb147) (o := .cells #[.bool false, .bool false, .bool false, .int .i64 0, .string (⟨#[]⟩ : ByteArray), .bool false, .int .i64 0, .string (⟨#[]⟩ : ByteArray)] 41 (0, 0)) (by (with_reducible repeat (first | refine blk_drewN ?_ _ | refine blk_drew ?_ | refine blk_alloc ?_ _)); exact BK147.out) hb); have n3_ := Aside0.mk (blk_below (g := gb148) (o := .cells #[.bool x149000_18, .bool true, .bool x149002_44, .int .i64 x149003_44, .string x149004_44, .bool x149005_1, .int .i64 x149006_1, .string x149007_1] 41 (0, 0)) (by (with_reducible repeat (first | refine blk_drewN ?_ _ | refine blk_drew ?_ | refine blk_alloc ?_ _)); exact BK148.out) hb); have n4_ := Aside0.mk (blk_below (g := gb149) (o := .cells #[.bool t150, .bool t151, .bool t152, .int .i64 t153, .string t154, .bool t155, .int .i64 t156, .string t157] 41 (0, 0)) (by (with_reducible repeat (first | refine blk_drewN ?_ _ | refine blk_drew ?_ | refine blk_alloc ?_ _)); exact BK149.out) hb); have n5_ := Aside0.mk (below_step (by repeat (first | (with_reducible first | exact HB.out | apply below_alloc | apply pw_below_drewN | apply below_drew1 | refine below_set ?_ GE145.out | refine below_set ?_ GE146.out | refine below_set ?_ GE147.out | refine below_set ?_ GE148.out | refine below_set ?_ GE149.out) | exact HB.out)) hb); clear BK145; clear BK146; clear BK147; clear BK148; clear BK149; clear HB; have BK145 := n0_; have BK146 := n1_; have BK147 := n2_; have BK148 := n3_; have BK149 := n4_; have HB := n5_; clear n0_ n1_ n2_ n3_ n4_ n5_; (try clear hb); (try clear hb2); (try clear hk); (try clear hi)))
            go_roundg kj44
            case measure => have := HK1.out; have := HJ18.out; have := HJ44.out; omega
            case rel => exact ⟨(wrap64 (x12_1 + 1)), (x149000_18), (true), (x149002_44), (x149003_44), (x149004_44), (x149005_1), (x149006_1), (x149007_1), (by first | rfl | (simp; done) | (simp [*]; done)), H', ⟨by have := HK1.out; have := HJ18.out; have := HJ44.out; omega⟩, ⟨by (with_reducible repeat (first | refine blk_drewN ?_ _ | refine blk_drew ?_ | refine blk_alloc ?_ _)); exact BK145.out⟩, ⟨by (with_reducible repeat (first | refine blk_drewN ?_ _ | refine blk_drew ?_ | refine blk_alloc ?_ _)); exact BK146.out⟩, ⟨by (with_reducible repeat (first | refine blk_drewN ?_ _ | refine blk_drew ?_ | refine blk_alloc ?_ _)); exact BK147.out⟩, ⟨by (with_reducible repeat (first | refine blk_drewN ?_ _ | refine blk_drew ?_ | refine blk_alloc ?_ _)); exact BK148.out⟩, ⟨by repeat (first | (with_reducible first | exact HB.out | apply below_alloc | apply pw_below_drewN | apply below_drew1 | refine below_set ?_ GE145.out | refine below_set ?_ GE146.out | refine below_set ?_ GE147.out | refine below_set ?_ GE148.out | refine below_set ?_ GE149.out) | exact HB.out)⟩⟩
        ·replace c43 := Bool.eq_false_iff.mpr c43
         subst c43
         have H1 : (zone_Join.l0 kj18 (wrap64 (x12_1 + 1)) a0_0 a0_1 a0_2 a0_3 a0_4 a0_5 a0_6 a0_7 a1_0 a1_1 a1_2 a1_3 a1_4 a1_5 a1_6 a1_7 x149000_18 t151 t152 t153 t154 t155 t156 t157) = some (r1, r2, r3, r4, r5, r6, r7, r8) := by rw [if_neg (show ¬ (false = true) by decide)] at H; exact H
         clear H
         have H := H1
         clear H1
         have H' := Aside0.mk H
         clear H
         have hnb92 := NB149_145.out
         have hnc92 := NB145_149.out
         have hnb93 := NB149_146.out
         have hnc93 := NB146_149.out
         have hnb94 := NB149_147.out
         have hnc94 := NB147_149.out
         have hnb95 := NB149_148.out
         have hnc95 := NB148_149.out
         have hcz96_0 : wc.cell? ⟨gb149, 0, none⟩ = some (.bool (pick2 x12_1 a0_0 a1_0)) := (blk_cell BK149.out 0).trans rfl
         have hcz96_1 : wc.cell? ⟨gb149, 1, none⟩ = some (.bool (pick2 x12_1 a0_1 a1_1)) := (blk_cell BK149.out 1).trans rfl
         have hcz96_2 : wc.cell? ⟨gb149, 2, none⟩ = some (.bool (pick2 x12_1 a0_2 a1_2)) := (blk_cell BK149.out 2).trans rfl
         have hcz96_3 : wc.cell? ⟨gb149, 3, none⟩ = some (.int .i64 (pick2 x12_1 a0_3 a1_3)) := (blk_cell BK149.out 3).trans rfl
         have hcz96_4 : wc.cell? ⟨gb149, 4, none⟩ = some (.string (pick2 x12_1 a0_4 a1_4)) := (blk_cell BK149.out 4).trans rfl
         have hcz96_5 : wc.cell? ⟨gb149, 5, none⟩ = some (.bool (pick2 x12_1 a0_5 a1_5)) := (blk_cell BK149.out 5).trans rfl
         have hcz96_6 : wc.cell? ⟨gb149, 6, none⟩ = some (.int .i64 (pick2 x12_1 a0_6 a1_6)) := (blk_cell BK149.out 6).trans rfl
         have hcz96_7 : wc.cell? ⟨gb149, 7, none⟩ = some (.string (pick2 x12_1 a0_7 a1_7)) := (blk_cell BK149.out 7).trans rfl
         have hfz96_0 := blk_frozen BK149.out 0
         have hfz96_1 := blk_frozen BK149.out 1
         have hfz96_2 := blk_frozen BK149.out 2
         have hfz96_3 := blk_frozen BK149.out 3
         have hfz96_4 := blk_frozen BK149.out 4
         have hfz96_5 := blk_frozen BK149.out 5
         have hfz96_6 := blk_frozen BK149.out 6
         have hfz96_7 := blk_frozen BK149.out 7
         go_wp2_with (first | ((with_reducible refine gate_callee (f := 49) rfl ?_); refine goesL_ (some 26) rfl rfl Try.func49 (by kernel_rfl) rfl #[.agg #[.bool (pick2 x12_1 a0_0 a1_0), .bool (pick2 x12_1 a0_1 a1_1), .bool (pick2 x12_1 a0_2 a1_2), .int .i64 (pick2 x12_1 a0_3 a1_3), .string (pick2 x12_1 a0_4 a1_4), .bool (pick2 x12_1 a0_5 a1_5), .int .i64 (pick2 x12_1 a0_6 a1_6), .string (pick2 x12_1 a0_7 a1_7)]] rfl (by (try simp only [List.map_toArray, List.map_cons, List.map_nil]); first | done | rfl | (simp only [List.length_drop, List.length_take]; rfl) | (simp only [*]; first | done | rfl) | (simp [*]; first | done | rfl)) ?_; (with_reducible refine (zone_ordered_c.calls (pick2 x12_1 a0_0 a1_0) (pick2 x12_1 a0_1 a1_1) (pick2 x12_1 a0_2 a1_2) (pick2 x12_1 a0_3 a1_3) (pick2 x12_1 a0_4 a1_4) (pick2 x12_1 a0_5 a1_5) (pick2 x12_1 a0_6 a1_6) (pick2 x12_1 a0_7 a1_7) t150 t151 t152 t153 t154 t155 t156 t157 _ A42.out).mono ?_); rintro e w97 ⟨rfl, hb⟩; refine ⟨_, rfl, ?_⟩; have n0_ := Aside0.mk (blk_below (g := gb145) (o := .cells #[.bool a0_0, .bool a0_1, .bool a0_2, .int .i64 a0_3, .string a0_4, .bool a0_5, .int .i64 a0_6, .string a0_7] 41 (0, 0)) (by (with_reducible repeat (first | refine blk_drewN ?_ _ | refine blk_drew ?_ | refine blk_alloc ?_ _)); exact BK145.out) hb); have n1_ := Aside0.mk (blk_below (g := gb146) (o := .cells #[.bool a1_0, .bool a1_1, .bool a1_2, .int .i64 a1_3, .string a1_4, .bool a1_5, .int .i64 a1_6, .string a1_7] 41 (0, 0)) (by (with_reducible repeat (first | refine blk_drewN ?_ _ | refine blk_drew ?_ | refine blk_alloc ?_ _)); exact BK146.out) hb); have n2_ := Aside0.mk (blk_below (g := gb147) (o := .cells #[.bool false, .bool false, .bool false, .int .i64 0, .string (⟨#[]⟩ : ByteArray), .bool false, .int .i64 0, .string (⟨#[]⟩ : ByteArray)] 41 (0, 0)) (by (with_reducible repeat (first | refine blk_drewN ?_ _ | refine blk_drew ?_ | refine blk_alloc ?_ _)); exact BK147.out) hb); have n3_ := Aside0.mk (blk_below (g := gb148) (o := .cells #[.bool x149000_18, .bool false, .bool x149002_1, .int .i64 x149003_1, .string x149004_1, .bool x149005_1, .int .i64 x149006_1, .string x149007_1] 41 (0, 0)) (by (with_reducible repeat (first | refine blk_drewN ?_ _ | refine blk_drew ?_ | refine blk_alloc ?_ _)); exact BK148.out) hb); have n4_ := Aside0.mk (blk_below (g := gb149) (o := .cells #[.bool (pick2 x12_1 a0_0 a1_0), .bool (pick2 x12_1 a0_1 a1_1), .bool (pick2 x12_1 a0_2 a1_2), .int .i64 (pick2 x12_1 a0_3 a1_3), .string (pick2 x12_1 a0_4 a1_4), .bool (pick2 x12_1 a0_5 a1_5), .int .i64 (pick2 x12_1 a0_6 a1_6), .string (pick2 x12_1 a0_7 a1_7)] 41 (0, 0)) (by (with_reducible repeat (first | refine blk_drewN ?_ _ | refine blk_drew ?_ | refine blk_alloc ?_ _)); exact BK149.out) hb); have n5_ := Aside0.mk (below_step (by repeat (first | (with_reducible first | exact HB.out | apply below_alloc | apply pw_below_drewN | apply below_drew1 | refine below_set ?_ GE145.out | refine below_set ?_ GE146.out | refine below_set ?_ GE147.out | refine below_set ?_ GE148.out | refine below_set ?_ GE149.out) | exact HB.out)) hb); clear BK145; clear BK146; clear BK147; clear BK148; clear BK149; clear HB; have BK145 := n0_; have BK146 := n1_; have BK147 := n2_; have BK148 := n3_; have BK149 := n4_; have HB := n5_; clear n0_ n1_ n2_ n3_ n4_ n5_; (try clear hb); (try clear hb2); (try clear hk); (try clear hi); have hcz98_0 : w97.cell? ⟨gb149, 0, none⟩ = some (.bool (pick2 x12_1 a0_0 a1_0)) := (blk_cell BK149.out 0).trans rfl; have hcz98_1 : w97.cell? ⟨gb149, 1, none⟩ = some (.bool (pick2 x12_1 a0_1 a1_1)) := (blk_cell BK149.out 1).trans rfl; have hcz98_2 : w97.cell? ⟨gb149, 2, none⟩ = some (.bool (pick2 x12_1 a0_2 a1_2)) := (blk_cell BK149.out 2).trans rfl; have hcz98_3 : w97.cell? ⟨gb149, 3, none⟩ = some (.int .i64 (pick2 x12_1 a0_3 a1_3)) := (blk_cell BK149.out 3).trans rfl; have hcz98_4 : w97.cell? ⟨gb149, 4, none⟩ = some (.string (pick2 x12_1 a0_4 a1_4)) := (blk_cell BK149.out 4).trans rfl; have hcz98_5 : w97.cell? ⟨gb149, 5, none⟩ = some (.bool (pick2 x12_1 a0_5 a1_5)) := (blk_cell BK149.out 5).trans rfl; have hcz98_6 : w97.cell? ⟨gb149, 6, none⟩ = some (.int .i64 (pick2 x12_1 a0_6 a1_6)) := (blk_cell BK149.out 6).trans rfl; have hcz98_7 : w97.cell? ⟨gb149, 7, none⟩ = some (.string (pick2 x12_1 a0_7 a1_7)) := (blk_cell BK149.out 7).trans rfl; have hfz98_0 := blk_frozen BK149.out 0; have hfz98_1 := blk_frozen BK149.out 1; have hfz98_2 := blk_frozen BK149.out 2; have hfz98_3 := blk_frozen BK149.out 3; have hfz98_4 := blk_frozen BK149.out 4; have hfz98_5 := blk_frozen BK149.out 5; have hfz98_6 := blk_frozen BK149.out 6; have hfz98_7 := blk_frozen BK149.out 7; have hnb99 := NB148_145.out; have hnc99 := NB145_148.out; have hnb100 := NB148_146.out; have hnc100 := NB146_148.out; have hnb101 := NB148_147.out; have hnc101 := NB147_148.out; have hcz102_0 : w97.cell? ⟨gb148, 0, none⟩ = some (.bool x149000_18) := (blk_cell BK148.out 0).trans rfl; have hcz102_1 : w97.cell? ⟨gb148, 1, none⟩ = some (.bool false) := (blk_cell BK148.out 1).trans rfl; have hcz102_2 : w97.cell? ⟨gb148, 2, none⟩ = some (.bool x149002_1) := (blk_cell BK148.out 2).trans rfl; have hcz102_3 : w97.cell? ⟨gb148, 3, none⟩ = some (.int .i64 x149003_1) := (blk_cell BK148.out 3).trans rfl; have hcz102_4 : w97.cell? ⟨gb148, 4, none⟩ = some (.string x149004_1) := (blk_cell BK148.out 4).trans rfl; have hcz102_5 : w97.cell? ⟨gb148, 5, none⟩ = some (.bool x149005_1) := (blk_cell BK148.out 5).trans rfl; have hcz102_6 : w97.cell? ⟨gb148, 6, none⟩ = some (.int .i64 x149006_1) := (blk_cell BK148.out 6).trans rfl; have hcz102_7 : w97.cell? ⟨gb148, 7, none⟩ = some (.string x149007_1) := (blk_cell BK148.out 7).trans rfl; have hfz102_0 := blk_frozen BK148.out 0; have hfz102_1 := blk_frozen BK148.out 1; have hfz102_2 := blk_frozen BK148.out 2; have hfz102_3 := blk_frozen BK148.out 3; have hfz102_4 := blk_frozen BK148.out 4; have hfz102_5 := blk_frozen BK148.out 5; have hfz102_6 := blk_frozen BK148.out 6; have hfz102_7 := blk_frozen BK148.out 7))
         go_roundg kj18
         case measure => have := HK1.out; have := HJ18.out; omega
         case rel => exact ⟨(wrap64 (x12_1 + 1)), (x149000_18), (t151), (t152), (t153), (t154), (t155), (t156), (t157), (by first | rfl | (simp; done) | (simp [*]; done)), H', ⟨by have := HK1.out; have := HJ18.out; omega⟩, ⟨by refine blk_far ?_ NB145_148.out _; refine blk_far ?_ NB145_148.out _; refine blk_far ?_ NB145_148.out _; refine blk_far ?_ NB145_148.out _; refine blk_far ?_ NB145_148.out _; refine blk_far ?_ NB145_148.out _; refine blk_far ?_ NB145_148.out _; refine blk_far ?_ NB145_148.out _; refine blk_far ?_ NB145_149.out _; refine blk_far ?_ NB145_149.out _; refine blk_far ?_ NB145_149.out _; refine blk_far ?_ NB145_149.out _; refine blk_far ?_ NB145_149.out _; refine blk_far ?_ NB145_149.out _; refine blk_far ?_ NB145_149.out _; refine blk_far ?_ NB145_149.out _; refine blk_far ?_ NB145_149.out _; (with_reducible repeat (first | refine blk_drewN ?_ _ | refine blk_drew ?_ | refine blk_alloc ?_ _)); exact BK145.out⟩, ⟨by refine blk_far ?_ NB146_148.out _; refine blk_far ?_ NB146_148.out _; refine blk_far ?_ NB146_148.out _; refine blk_far ?_ NB146_148.out _; refine blk_far ?_ NB146_148.out _; refine blk_far ?_ NB146_148.out _; refine blk_far ?_ NB146_148.out _; refine blk_far ?_ NB146_148.out _; refine blk_far ?_ NB146_149.out _; refine blk_far ?_ NB146_149.out _; refine blk_far ?_ NB146_149.out _; refine blk_far ?_ NB146_149.out _; refine blk_far ?_ NB146_149.out _; refine blk_far ?_ NB146_149.out _; refine blk_far ?_ NB146_149.out _; refine blk_far ?_ NB146_149.out _; refine blk_far ?_ NB146_149.out _; (with_reducible repeat (first | refine blk_drewN ?_ _ | refine blk_drew ?_ | refine blk_alloc ?_ _)); exact BK146.out⟩, ⟨by refine blk_far ?_ NB147_148.out _; refine blk_far ?_ NB147_148.out _; refine blk_far ?_ NB147_148.out _; refine blk_far ?_ NB147_148.out _; refine blk_far ?_ NB147_148.out _; refine blk_far ?_ NB147_148.out _; refine blk_far ?_ NB147_148.out _; refine blk_far ?_ NB147_148.out _; refine blk_far ?_ NB147_149.out _; refine blk_far ?_ NB147_149.out _; refine blk_far ?_ NB147_149.out _; refine blk_far ?_ NB147_149.out _; refine blk_far ?_ NB147_149.out _; refine blk_far ?_ NB147_149.out _; refine blk_far ?_ NB147_149.out _; refine blk_far ?_ NB147_149.out _; refine blk_far ?_ NB147_149.out _; (with_reducible repeat (first | refine blk_drewN ?_ _ | refine blk_drew ?_ | refine blk_alloc ?_ _)); exact BK147.out⟩, ⟨by refine blk_put (cs := #[.bool x149000_18, .bool t151, .bool t152, .int .i64 t153, .string t154, .bool t155, .int .i64 t156, .string x149007_1]) ?_ 7 _ rfl; refine blk_put (cs := #[.bool x149000_18, .bool t151, .bool t152, .int .i64 t153, .string t154, .bool t155, .int .i64 x149006_1, .string x149007_1]) ?_ 6 _ rfl; refine blk_put (cs := #[.bool x149000_18, .bool t151, .bool t152, .int .i64 t153, .string t154, .bool x149005_1, .int .i64 x149006_1, .string x149007_1]) ?_ 5 _ rfl; refine blk_put (cs := #[.bool x149000_18, .bool t151, .bool t152, .int .i64 t153, .string x149004_1, .bool x149005_1, .int .i64 x149006_1, .string x149007_1]) ?_ 4 _ rfl; refine blk_put (cs := #[.bool x149000_18, .bool t151, .bool t152, .int .i64 x149003_1, .string x149004_1, .bool x149005_1, .int .i64 x149006_1, .string x149007_1]) ?_ 3 _ rfl; refine blk_put (cs := #[.bool x149000_18, .bool t151, .bool x149002_1, .int .i64 x149003_1, .string x149004_1, .bool x149005_1, .int .i64 x149006_1, .string x149007_1]) ?_ 2 _ rfl; refine blk_put (cs := #[.bool x149000_18, .bool false, .bool x149002_1, .int .i64 x149003_1, .string x149004_1, .bool x149005_1, .int .i64 x149006_1, .string x149007_1]) ?_ 1 _ rfl; refine blk_put (cs := #[.bool x149000_18, .bool false, .bool x149002_1, .int .i64 x149003_1, .string x149004_1, .bool x149005_1, .int .i64 x149006_1, .string x149007_1]) ?_ 0 _ rfl; refine blk_far ?_ NB148_149.out _; refine blk_far ?_ NB148_149.out _; refine blk_far ?_ NB148_149.out _; refine blk_far ?_ NB148_149.out _; refine blk_far ?_ NB148_149.out _; refine blk_far ?_ NB148_149.out _; refine blk_far ?_ NB148_149.out _; refine blk_far ?_ NB148_149.out _; refine blk_far ?_ NB148_149.out _; (with_reducible repeat (first | refine blk_drewN ?_ _ | refine blk_drew ?_ | refine blk_alloc ?_ _)); exact BK148.out⟩, ⟨by repeat (first | (with_reducible first | exact HB.out | apply below_alloc | apply pw_below_drewN | apply below_drew1 | refine below_set ?_ GE145.out | refine below_set ?_ GE146.out | refine below_set ?_ GE147.out | refine below_set ?_ GE148.out | refine below_set ?_ GE149.out) | exact HB.out)⟩⟩
       ·rw [if_neg c41] at H
        have c41b0 : (pick2 x12_1 a0_1 a1_1) = false := by simpa using c41
        clear c41
        have H' := Aside0.mk H
        clear H
        have hnb103 := NB149_145.out
        have hnc103 := NB145_149.out
        have hnb104 := NB149_146.out
        have hnc104 := NB146_149.out
        have hnb105 := NB149_147.out
        have hnc105 := NB147_149.out
        have hnb106 := NB149_148.out
        have hnc106 := NB148_149.out
        have hcz107_0 : wc.cell? ⟨gb149, 0, none⟩ = some (.bool (pick2 x12_1 a0_0 a1_0)) := (blk_cell BK149.out 0).trans rfl
        have hcz107_1 : wc.cell? ⟨gb149, 1, none⟩ = some (.bool (pick2 x12_1 a0_1 a1_1)) := (blk_cell BK149.out 1).trans rfl
        have hcz107_2 : wc.cell? ⟨gb149, 2, none⟩ = some (.bool (pick2 x12_1 a0_2 a1_2)) := (blk_cell BK149.out 2).trans rfl
        have hcz107_3 : wc.cell? ⟨gb149, 3, none⟩ = some (.int .i64 (pick2 x12_1 a0_3 a1_3)) := (blk_cell BK149.out 3).trans rfl
        have hcz107_4 : wc.cell? ⟨gb149, 4, none⟩ = some (.string (pick2 x12_1 a0_4 a1_4)) := (blk_cell BK149.out 4).trans rfl
        have hcz107_5 : wc.cell? ⟨gb149, 5, none⟩ = some (.bool (pick2 x12_1 a0_5 a1_5)) := (blk_cell BK149.out 5).trans rfl
        have hcz107_6 : wc.cell? ⟨gb149, 6, none⟩ = some (.int .i64 (pick2 x12_1 a0_6 a1_6)) := (blk_cell BK149.out 6).trans rfl
        have hcz107_7 : wc.cell? ⟨gb149, 7, none⟩ = some (.string (pick2 x12_1 a0_7 a1_7)) := (blk_cell BK149.out 7).trans rfl
        have hfz107_0 := blk_frozen BK149.out 0
        have hfz107_1 := blk_frozen BK149.out 1
        have hfz107_2 := blk_frozen BK149.out 2
        have hfz107_3 := blk_frozen BK149.out 3
        have hfz107_4 := blk_frozen BK149.out 4
        have hfz107_5 := blk_frozen BK149.out 5
        have hfz107_6 := blk_frozen BK149.out 6
        have hfz107_7 := blk_frozen BK149.out 7
        go_wp2
        go_roundg kj18
        case measure => have := HK1.out; have := HJ18.out; omega
        case rel => exact ⟨(wrap64 (x12_1 + 1)), (x149000_18), (x149001_1), (x149002_1), (x149003_1), (x149004_1), (x149005_1), (x149006_1), (x149007_1), (by first | rfl | (simp; done) | (simp [*]; done)), H', ⟨by have := HK1.out; have := HJ18.out; omega⟩, ⟨by (with_reducible repeat (first | refine blk_drewN ?_ _ | refine blk_drew ?_ | refine blk_alloc ?_ _)); exact BK145.out⟩, ⟨by (with_reducible repeat (first | refine blk_drewN ?_ _ | refine blk_drew ?_ | refine blk_alloc ?_ _)); exact BK146.out⟩, ⟨by (with_reducible repeat (first | refine blk_drewN ?_ _ | refine blk_drew ?_ | refine blk_alloc ?_ _)); exact BK147.out⟩, ⟨by (with_reducible repeat (first | refine blk_drewN ?_ _ | refine blk_drew ?_ | refine blk_alloc ?_ _)); exact BK148.out⟩, ⟨by repeat (first | (with_reducible first | exact HB.out | apply below_alloc | apply pw_below_drewN | apply below_drew1 | refine below_set ?_ GE145.out | refine below_set ?_ GE146.out | refine below_set ?_ GE147.out | refine below_set ?_ GE148.out | refine below_set ?_ GE149.out) | exact HB.out)⟩⟩
    ·rw [if_neg c17] at H
     exact absurd H (by simp)
   ·rw [if_neg c16] at H
    have c16b0 : decide (x12_1 < 2) = false := decide_eq_false c16
    clear c16
    simp only [Option.some.injEq, Prod.mk.injEq] at H
    obtain ⟨rfl, rfl, rfl, rfl, rfl, rfl, rfl, rfl⟩ := H
    have hnb108 := NB148_145.out
    have hnc108 := NB145_148.out
    have hnb109 := NB148_146.out
    have hnc109 := NB146_148.out
    have hnb110 := NB148_147.out
    have hnc110 := NB147_148.out
    have hcz111_0 : wr.cell? ⟨gb148, 0, none⟩ = some (.bool x149000_1) := (blk_cell BK148.out 0).trans rfl
    have hcz111_1 : wr.cell? ⟨gb148, 1, none⟩ = some (.bool x149001_1) := (blk_cell BK148.out 1).trans rfl
    have hcz111_2 : wr.cell? ⟨gb148, 2, none⟩ = some (.bool x149002_1) := (blk_cell BK148.out 2).trans rfl
    have hcz111_3 : wr.cell? ⟨gb148, 3, none⟩ = some (.int .i64 x149003_1) := (blk_cell BK148.out 3).trans rfl
    have hcz111_4 : wr.cell? ⟨gb148, 4, none⟩ = some (.string x149004_1) := (blk_cell BK148.out 4).trans rfl
    have hcz111_5 : wr.cell? ⟨gb148, 5, none⟩ = some (.bool x149005_1) := (blk_cell BK148.out 5).trans rfl
    have hcz111_6 : wr.cell? ⟨gb148, 6, none⟩ = some (.int .i64 x149006_1) := (blk_cell BK148.out 6).trans rfl
    have hcz111_7 : wr.cell? ⟨gb148, 7, none⟩ = some (.string x149007_1) := (blk_cell BK148.out 7).trans rfl
    have hfz111_0 := blk_frozen BK148.out 0
    have hfz111_1 := blk_frozen BK148.out 1
    have hfz111_2 := blk_frozen BK148.out 2
    have hfz111_3 := blk_frozen BK148.out 3
    have hfz111_4 := blk_frozen BK148.out 4
    have hfz111_5 := blk_frozen BK148.out 5
    have hfz111_6 := blk_frozen BK148.out 6
    have hfz111_7 := blk_frozen BK148.out 7
    have hnb112 := NB147_145.out
    have hnc112 := NB145_147.out
    have hnb113 := NB147_146.out
    have hnc113 := NB146_147.out
    have hcz114_0 : wr.cell? ⟨gb147, 0, none⟩ = some (.bool false) := (blk_cell BK147.out 0).trans rfl
    have hcz114_1 : wr.cell? ⟨gb147, 1, none⟩ = some (.bool false) := (blk_cell BK147.out 1).trans rfl
    have hcz114_2 : wr.cell? ⟨gb147, 2, none⟩ = some (.bool false) := (blk_cell BK147.out 2).trans rfl
    have hcz114_3 : wr.cell? ⟨gb147, 3, none⟩ = some (.int .i64 0) := (blk_cell BK147.out 3).trans rfl
    have hcz114_4 : wr.cell? ⟨gb147, 4, none⟩ = some (.string (⟨#[]⟩ : ByteArray)) := (blk_cell BK147.out 4).trans rfl
    have hcz114_5 : wr.cell? ⟨gb147, 5, none⟩ = some (.bool false) := (blk_cell BK147.out 5).trans rfl
    have hcz114_6 : wr.cell? ⟨gb147, 6, none⟩ = some (.int .i64 0) := (blk_cell BK147.out 6).trans rfl
    have hcz114_7 : wr.cell? ⟨gb147, 7, none⟩ = some (.string (⟨#[]⟩ : ByteArray)) := (blk_cell BK147.out 7).trans rfl
    have hfz114_0 := blk_frozen BK147.out 0
    have hfz114_1 := blk_frozen BK147.out 1
    have hfz114_2 := blk_frozen BK147.out 2
    have hfz114_3 := blk_frozen BK147.out 3
    have hfz114_4 := blk_frozen BK147.out 4
    have hfz114_5 := blk_frozen BK147.out 5
    have hfz114_6 := blk_frozen BK147.out 6
    have hfz114_7 := blk_frozen BK147.out 7
    go_wp2
    refine bodyPost_ret (results_cell_row rfl _ _ gb147 41 #[.bool x149000_1, .bool x149001_1, .bool x149002_1, .int .i64 x149003_1, .string x149004_1, .bool x149005_1, .int .i64 x149006_1, .string x149007_1] (0, 0) _ rfl (by refine blk_put (cs := #[.bool x149000_1, .bool x149001_1, .bool x149002_1, .int .i64 x149003_1, .string x149004_1, .bool x149005_1, .int .i64 x149006_1, .string (⟨#[]⟩ : ByteArray)]) ?_ 7 _ rfl; refine blk_put (cs := #[.bool x149000_1, .bool x149001_1, .bool x149002_1, .int .i64 x149003_1, .string x149004_1, .bool x149005_1, .int .i64 0, .string (⟨#[]⟩ : ByteArray)]) ?_ 6 _ rfl; refine blk_put (cs := #[.bool x149000_1, .bool x149001_1, .bool x149002_1, .int .i64 x149003_1, .string x149004_1, .bool false, .int .i64 0, .string (⟨#[]⟩ : ByteArray)]) ?_ 5 _ rfl; refine blk_put (cs := #[.bool x149000_1, .bool x149001_1, .bool x149002_1, .int .i64 x149003_1, .string (⟨#[]⟩ : ByteArray), .bool false, .int .i64 0, .string (⟨#[]⟩ : ByteArray)]) ?_ 4 _ rfl; refine blk_put (cs := #[.bool x149000_1, .bool x149001_1, .bool x149002_1, .int .i64 0, .string (⟨#[]⟩ : ByteArray), .bool false, .int .i64 0, .string (⟨#[]⟩ : ByteArray)]) ?_ 3 _ rfl; refine blk_put (cs := #[.bool x149000_1, .bool x149001_1, .bool false, .int .i64 0, .string (⟨#[]⟩ : ByteArray), .bool false, .int .i64 0, .string (⟨#[]⟩ : ByteArray)]) ?_ 2 _ rfl; refine blk_put (cs := #[.bool x149000_1, .bool false, .bool false, .int .i64 0, .string (⟨#[]⟩ : ByteArray), .bool false, .int .i64 0, .string (⟨#[]⟩ : ByteArray)]) ?_ 1 _ rfl; refine blk_put (cs := #[.bool false, .bool false, .bool false, .int .i64 0, .string (⟨#[]⟩ : ByteArray), .bool false, .int .i64 0, .string (⟨#[]⟩ : ByteArray)]) ?_ 0 _ rfl; (with_reducible repeat (first | refine blk_drewN ?_ _ | refine blk_drew ?_ | refine blk_alloc ?_ _)); exact BK147.out) Try.underlying41 rfl (by kernel_rfl)) rfl ?_
    exact ⟨by first | rfl | (simp [errW_none, errW_some] <;> rfl) | (simp [*, errW_none, errW_some] <;> rfl), by repeat (first | (with_reducible first | exact HB.out | apply below_alloc | apply pw_below_drewN | apply below_drew1 | refine below_set ?_ GE145.out | refine below_set ?_ GE146.out | refine below_set ?_ GE147.out | refine below_set ?_ GE148.out) | exact HB.out)⟩
/-! ### zone_Join_c: function 25 -/
--@import Derived.Test.YtnfliommpdjlkaaThy
def stepZ (z x : Zn) : Zn :=
  if x.va = true then
    (if z.va = true then ⟨z.nu || x.nu, true, if lessV (ordV x).lo z.lo then (ordV x).lo else z.lo, if lessV z.hi (ordV x).hi then (ordV x).hi else z.hi⟩
     else ⟨z.nu || x.nu, true, (ordV x).lo, (ordV x).hi⟩)
  else ⟨z.nu || x.nu, z.va, z.lo, z.hi⟩
def joinZ (a b : Zn) : Zn := stepZ (stepZ zeroZ a) b
theorem ordV_va (x : Zn) : (ordV x).va = true := by unfold ordV; split <;> rfl
def zL (k : Nat) (i : Int) (a b z : Zn) : Option (Bool × Bool × Bool × Int × ByteArray × Bool × Int × ByteArray) := zone_Join.l0 k i a.nu a.va a.lo.f0 a.lo.f1 a.lo.f2 a.hi.f0 a.hi.f1 a.hi.f2 b.nu b.va b.lo.f0 b.lo.f1 b.lo.f2 b.hi.f0 b.hi.f1 b.hi.f2 z.nu z.va z.lo.f0 z.lo.f1 z.lo.f2 z.hi.f0 z.hi.f1 z.hi.f2
theorem zL_up {k : Nat} {i : Int} {a b z : Zn} {r : Bool × Bool × Bool × Int × ByteArray × Bool × Int × ByteArray} (h : zL k i a b z = some r) : zL (k + 1) i a b z = some r :=
  (zone_Join.mono_l k).1 _ _ _ _ _ _ _ _ _ _ _ _ _ _ _ _ _ _ _ _ _ _ _ _ _ r h
theorem zone_Join.one (k : Nat) (i j : Int) (a b z x : Zn) (r : Bool × Bool × Bool × Int × ByteArray × Bool × Int × ByteArray) (hi : (if i = 0 then a else b) = x) (h0 : 0 ≤ i) (h2 : i < 2) (hj : wrap64 (i + 1) = j)
    (h : zL k j a b (stepZ z x) = some r) : zL (k + 3) i a b z = some r := by
  have e0 : (pick2 i a.nu b.nu) = x.nu := by rw [← hi]; unfold pick2; split <;> rfl
  have e1 : (pick2 i a.va b.va) = x.va := by rw [← hi]; unfold pick2; split <;> rfl
  have e2 : (pick2 i a.lo.f0 b.lo.f0) = x.lo.f0 := by rw [← hi]; unfold pick2; split <;> rfl
  have e3 : (pick2 i a.lo.f1 b.lo.f1) = x.lo.f1 := by rw [← hi]; unfold pick2; split <;> rfl
  have e4 : (pick2 i a.lo.f2 b.lo.f2) = x.lo.f2 := by rw [← hi]; unfold pick2; split <;> rfl
  have e5 : (pick2 i a.hi.f0 b.hi.f0) = x.hi.f0 := by rw [← hi]; unfold pick2; split <;> rfl
  have e6 : (pick2 i a.hi.f1 b.hi.f1) = x.hi.f1 := by rw [← hi]; unfold pick2; split <;> rfl
  have e7 : (pick2 i a.hi.f2 b.hi.f2) = x.hi.f2 := by rw [← hi]; unfold pick2; split <;> rfl
  unfold zL
  rw [zone_Join.l0, if_pos h2, if_pos h0, e0, e1, e2, e3, e4, e5, e6, e7]
  have hn : (if z.nu = true then zone_Join.j1 (k + 2) i a.nu a.va a.lo.f0 a.lo.f1 a.lo.f2 a.hi.f0 a.hi.f1 a.hi.f2 b.nu b.va b.lo.f0 b.lo.f1 b.lo.f2 b.hi.f0 b.hi.f1 b.hi.f2 true z.va z.lo.f0 z.lo.f1 z.lo.f2 z.hi.f0 z.hi.f1 z.hi.f2 x.nu x.va x.lo.f0 x.lo.f1 x.lo.f2 x.hi.f0 x.hi.f1 x.hi.f2
      else zone_Join.j1 (k + 2) i a.nu a.va a.lo.f0 a.lo.f1 a.lo.f2 a.hi.f0 a.hi.f1 a.hi.f2 b.nu b.va b.lo.f0 b.lo.f1 b.lo.f2 b.hi.f0 b.hi.f1 b.hi.f2 x.nu z.va z.lo.f0 z.lo.f1 z.lo.f2 z.hi.f0 z.hi.f1 z.hi.f2 x.nu x.va x.lo.f0 x.lo.f1 x.lo.f2 x.hi.f0 x.hi.f1 x.hi.f2) =
      zone_Join.j1 (k + 2) i a.nu a.va a.lo.f0 a.lo.f1 a.lo.f2 a.hi.f0 a.hi.f1 a.hi.f2 b.nu b.va b.lo.f0 b.lo.f1 b.lo.f2 b.hi.f0 b.hi.f1 b.hi.f2 (z.nu || x.nu) z.va z.lo.f0 z.lo.f1 z.lo.f2 z.hi.f0 z.hi.f1 z.hi.f2 x.nu x.va x.lo.f0 x.lo.f1 x.lo.f2 x.hi.f0 x.hi.f1 x.hi.f2 := by
    cases z.nu <;> simp
  rw [hn, zone_Join.j1, hj]
  by_cases hx : x.va = true
  · rw [if_pos hx]
    simp only [zone_ordered_c.f, Option.bind_some, Zn.tup]
    by_cases hz : z.va = true
    · rw [if_pos hz]
      have hs : stepZ z x = ⟨z.nu || x.nu, true, if lessV (ordV x).lo z.lo then (ordV x).lo else z.lo, if lessV z.hi (ordV x).hi then (ordV x).hi else z.hi⟩ := by unfold stepZ; rw [if_pos hx, if_pos hz]
      rw [hs] at h
      simp only [kinds_Compare_c.f, Option.bind_some, Thy.cmpV_lt, Thy.cmpV_gt, zone_Join.j2, hj, hz]
      unfold lessV zL at h
      by_cases c1 : Thy.less (ordV x).lo.f0 (ordV x).lo.f1 (ordV x).lo.f2 z.lo.f0 z.lo.f1 z.lo.f2 = true <;>
        by_cases c2 : Thy.less z.hi.f0 z.hi.f1 z.hi.f2 (ordV x).hi.f0 (ordV x).hi.f1 (ordV x).hi.f2 = true <;>
        simp only [c1, c2, if_true, if_false, Bool.false_eq_true] at h ⊢ <;> exact h
    · rw [if_neg hz]
      have hs : stepZ z x = ⟨z.nu || x.nu, true, (ordV x).lo, (ordV x).hi⟩ := by unfold stepZ; rw [if_pos hx, if_neg hz]
      rw [hs] at h
      have := zL_up h
      unfold zL at this
      rw [ordV_va]
      exact this
  · rw [if_neg hx]
    have hs : stepZ z x = ⟨z.nu || x.nu, z.va, z.lo, z.hi⟩ := by unfold stepZ; rw [if_neg hx]
    rw [hs] at h
    exact zL_up h
theorem zone_Join.is (a b : Zn) : zone_Join.f 7 a.nu a.va a.lo.f0 a.lo.f1 a.lo.f2 a.hi.f0 a.hi.f1 a.hi.f2 b.nu b.va b.lo.f0 b.lo.f1 b.lo.f2 b.hi.f0 b.hi.f1 b.hi.f2 = some (joinZ a b).tup := by
  have h : zL 7 0 a b zeroZ = some (joinZ a b).tup := by
    refine zone_Join.one 4 0 1 a b zeroZ a _ (if_pos rfl) (by decide) (by decide) (by unfold wrap64; omega) ?_
    refine zone_Join.one 1 1 2 a b _ b _ (if_neg (by decide)) (by decide) (by decide) (by unfold wrap64; omega) ?_
    unfold zL
    rw [zone_Join.l0, if_neg (by decide)]
    rfl
  exact h
def zone_Join_c.f (a0_0 : Bool) (a0_1 : Bool) (a0_2 : Bool) (a0_3 : Int) (a0_4 : ByteArray) (a0_5 : Bool) (a0_6 : Int) (a0_7 : ByteArray) (a1_0 : Bool) (a1_1 : Bool) (a1_2 : Bool) (a1_3 : Int) (a1_4 : ByteArray) (a1_5 : Bool) (a1_6 : Int) (a1_7 : ByteArray) : Option (Bool × Bool × Bool × Int × ByteArray × Bool × Int × ByteArray) := some (joinZ ⟨a0_0, a0_1, ⟨a0_2, a0_3, a0_4⟩, ⟨a0_5, a0_6, a0_7⟩⟩ ⟨a1_0, a1_1, ⟨a1_2, a1_3, a1_4⟩, ⟨a1_5, a1_6, a1_7⟩⟩).tup
theorem zone_Join_c.calls (a0_0 : Bool) (a0_1 : Bool) (a0_2 : Bool) (a0_3 : Int) (a0_4 : ByteArray) (a0_5 : Bool) (a0_6 : Int) (a0_7 : ByteArray) (a1_0 : Bool) (a1_1 : Bool) (a1_2 : Bool) (a1_3 : Int) (a1_4 : ByteArray) (a1_5 : Bool) (a1_6 : Int) (a1_7 : ByteArray) (r1 : Bool) (r2 : Bool) (r3 : Bool) (r4 : Int) (r5 : ByteArray) (r6 : Bool) (r7 : Int) (r8 : ByteArray) (w : World) (h : zone_Join_c.f a0_0 a0_1 a0_2 a0_3 a0_4 a0_5 a0_6 a0_7 a1_0 a1_1 a1_2 a1_3 a1_4 a1_5 a1_6 a1_7 = some (r1, r2, r3, r4, r5, r6, r7, r8)) :
    Calls Try.prog 25 #[.agg #[.bool a0_0, .bool a0_1, .bool a0_2, .int .i64 a0_3, .string a0_4, .bool a0_5, .int .i64 a0_6, .string a0_7], .agg #[.bool a1_0, .bool a1_1, .bool a1_2, .int .i64 a1_3, .string a1_4, .bool a1_5, .int .i64 a1_6, .string a1_7]] w fun e w' => e = .returned (.agg #[.bool r1, .bool r2, .bool r3, .int .i64 r4, .string r5, .bool r6, .int .i64 r7, .string r8]) ∧ Below w.heap.size w w' :=
  zone_Join.calls 7 a0_0 a0_1 a0_2 a0_3 a0_4 a0_5 a0_6 a0_7 a1_0 a1_1 a1_2 a1_3 a1_4 a1_5 a1_6 a1_7 r1 r2 r3 r4 r5 r6 r7 r8 w ((zone_Join.is ⟨a0_0, a0_1, ⟨a0_2, a0_3, a0_4⟩, ⟨a0_5, a0_6, a0_7⟩⟩ ⟨a1_0, a1_1, ⟨a1_2, a1_3, a1_4⟩, ⟨a1_5, a1_6, a1_7⟩⟩).trans h)


end Go.Proofs.Ytnfliommpdjlkaa.Pr
