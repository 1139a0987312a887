-- printed by xprint.py
import Derived.Test.YthlelhndmnkmjaaPr0
import Derived.Test.YthlelhndmnkmjaaPrf32
import Derived.Test.YthlelhndmnkmjaaPrz25
import Derived.Test.YthlelhndmnkmjaaPrf57
namespace Go.Proofs.Ythlelhndmnkmjaa.Pr
open Go.RowKit Go.Proofs.YthlelhndmnkmjaaW PrintWords PrintLast PrintMore
set_option linter.unusedVariables false
set_option linter.unusedSimpArgs false

/-! ### groups_By: function 26 -/
def groups_By.l0 : Nat → Int → Int → List (S49) → List (List (S37)) → Int → Int → Option ((List (S49)) × Int)
 | 0, _, _, _, _, _, _ => none
 | k + 1, x1, x2, x8, x13, x14, x15 => if x15 < x14 then (if 0 ≤ x15 then (if x15 < (x13.length : Int) then ((sums_Fold_c.f (([rd_L7 x13 x15] : List (List (S37)))) x2).bind fun bt184 => (if bt184.2.2.2.2.2.2.2.2.2 = 0 then (if x1 < 0 then (some (([] : List (S49)), 7)) else (if x1 ≥ ((rd_L7 x13 x15).length : Int) then (some (([] : List (S49)), 7)) else (if 0 ≤ x1 then (if x1 < ((rd_L7 x13 x15).length : Int) then (if x8.length < 1172812402961 then (groups_By.l0 k x1 x2 (x8 ++ [(⟨(⟨(rd_T37 (rd_L7 x13 x15) x1).f0, (rd_T37 (rd_L7 x13 x15) x1).f1, (rd_T37 (rd_L7 x13 x15) x1).f2⟩ : S37), (⟨bt184.1, bt184.2.1, bt184.2.2.1, (⟨bt184.2.2.2.1, bt184.2.2.2.2.1, bt184.2.2.2.2.2.1⟩ : S37), (⟨bt184.2.2.2.2.2.2.1, bt184.2.2.2.2.2.2.2.1, bt184.2.2.2.2.2.2.2.2.1⟩ : S37)⟩ : S47)⟩ : S49)]) x13 x14 (wrap64 (x15 + 1))) else (none)) else (none)) else (none)))) else (some (([] : List (S49)), 7)))) else (none)) else (none)) else ((sortKey.f x8).bind fun t199 => ((groups_gather.f k t199).bind fun t200 => (some (t200, 0))))
def groups_By.f (k : Nat) (l0 : List (List (S37))) (a1 : Int) (a2 : Int) : Option ((List (S49)) × Int) := groups_By.l0 k a1 a2 ([] : List (S49)) l0 (l0.length : Int) 0
theorem groups_By.mono_l : ∀ k, (∀ y0 y1 y2 y3 y4 y5, LeO (groups_By.l0 k y0 y1 y2 y3 y4 y5) (groups_By.l0 (k + 1) y0 y1 y2 y3 y4 y5))
 | 0 => fun _ _ _ _ _ _ r h => by simp [groups_By.l0] at h
 | k + 1 => by
  have ih0 := groups_By.mono_l k
  ·intro y0 y1 y2 y3 y4 y5
   unfold groups_By.l0
   repeat' first
   | (with_reducible exact ih0 _ _ _ _ _ _)
   | (with_reducible exact groups_gather.mono _ _)
   | (with_reducible exact LeO.refl _)
   | (with_reducible exact LeO.none _)
   | (with_reducible refine LeO.ite ?_ ?_)
   | (with_reducible refine LeO.bind ?_ (fun _ => ?_))
theorem groups_By.mono : ∀ a0 a1 a2 k, LeO (groups_By.f k a0 a1 a2) (groups_By.f (k + 1) a0 a1 a2) := by
 intro a0 a1 a2 k
 have ih0 := groups_By.mono_l k
 unfold groups_By.f
 repeat' first
   | (with_reducible exact ih0 _ _ _ _ _ _)
   | (with_reducible exact groups_gather.mono _ _)
   | (with_reducible exact LeO.refl _)
   | (with_reducible exact LeO.none _)
   | (with_reducible refine LeO.ite ?_ ?_)
   | (with_reducible refine LeO.bind ?_ (fun _ => ?_))
def groups_By.T8 : Bool × List (List Nat × List Nat) := (true, [([], []), ([], []), ([], []), ([1, 2], [1, 2]), ([3], [3]), ([], []), ([4, 5], [4, 5]), ([6], [6]), ([0, 7], [0, 7]), ([8, 8, 0, 1, 2, 3, 4, 5, 6, 7, 8], [0, 8])])
def groups_By.B8 : List Nat := [0, 0, 0, 6, 14, 0, 62, 126, 255, 511]
theorem groups_By.tab8 : rtab .any (opsOf Try.f26 8) = groups_By.T8 := by kernel_rfl
theorem groups_By.bits8 : waitsOk groups_By.T8.2 groups_By.B8 = true := by kernel_rfl
set_option maxHeartbeats 8000000 in
set_option maxRecDepth 100000 in
theorem groups_By.calls (k : Nat) (P0_ : Nat → Prop) (A0 : Option Addr) (c0 : Nat) (l0 : List (List (S37))) (a1 : Int) (a2 : Int) (r1 : List (S49)) (r2 : Int) (w : World) (hs0 : Kd.V (Kd.slice 37 k37) 39 w w.heap.size (fun k_ => P0_ k_) (.slice A0 l0.length c0) l0) (h : groups_By.f k l0 a1 a2 = some (r1, r2)) :
  Calls Try.prog 26 #[.slice A0 l0.length c0, .int .i64 a1, .int .i64 a2] w fun e w' => ∃ v0_ : Value, e = .returned (.tuple #[v0_, .int .i64 r2]) ∧ Kd.R k49 49 w' w.heap.size (fun k_ => (w.heap.size ≤ k_)) v0_ r1 ∧ Below w.heap.size w w' := by
 have hu47 := Try.underlying47
 have hu37 := Try.underlying37
 have hu49 := Try.underlying49
 have HO0 := Aside0.mk (show Kd.V (Kd.slice 37 k37) 39 w w.heap.size (fun k_ => (P0_ k_ ∨ w.heap.size ≤ k_)) (.slice A0 l0.length c0) l0 from Kd.V_mono hs0 (fun k_ hk => .inl hk))
 have HB := Aside0.mk (Below.refl w.heap.size w)
 have H : (groups_By.l0 k a1 a2 ([] : List (S49)) l0 (l0.length : Int) 0) = some (r1, r2) := h
 clear h
 have H' := Aside0.mk H
 clear H
 go_enter Try.func26, Try.ntmps26
 go_wp2
 go_loopg [8, 15] k (fun kq v8 v15 w' => ∃ (x8_1 : List (S49)) (x15_1 : Int), v15 = .int .i64 x15_1 ∧ Aside0 (groups_By.l0 kq a1 a2 x8_1 l0 (l0.length : Int) x15_1 = some (r1, r2)) ∧ Aside0 (kq ≤ k) ∧ Aside0 (Kd.R k49 49 w' w.heap.size (fun k_ => (w.heap.size ≤ k_)) v8 x8_1) ∧ Aside0 (Kd.V (Kd.slice 37 k37) 39 w' w.heap.size (fun k_ => (P0_ k_ ∨ w.heap.size ≤ k_) ∧ some k_ ≠ (v8 : Value).ownBlock) (.slice A0 l0.length c0) l0) ∧ Aside0 (Below w.heap.size w w'))
 case atStart => exact ⟨(([] : List (S49))), (0), (by first | rfl | (simp; done) | (simp [*]; done)), H', ⟨Nat.le_refl _⟩, ⟨by first | exact Kd.R_nil _ _ _ _ _ | exact Kd.N_nil _ _ _ _ _ | exact Kd.V_nil _ _ _ _ _ | exact Kd.Q_nil _ _ _ _ _ | exact Kd.S_nil _ _ _ _ _⟩, ⟨by (with_reducible repeat (first | apply Kd.V_alloc | apply Kd.V_drewN | apply Kd.V_drew)); exact Kd.V_mono HO0.out (fun _ hk => ⟨hk, (by simp [Value.ownBlock])⟩)⟩, ⟨by repeat (first | (with_reducible first | exact HB.out | apply below_alloc | apply pw_below_drewN | apply below_drew1) | exact HB.out)⟩⟩
 case round =>
  clear H'
  try clear c2
  try clear p2
  obtain ⟨x8_1, x15_1, rfl, HA, HK1, HO_8, HO_13, HB⟩ := hrel
  cases gk with
  | zero => exact absurd HA.out (by simp [groups_By.l0])
  | succ k1 =>
   have H := HA.out
   clear HA
   simp only [groups_By.l0] at H
   by_cases c4 : x15_1 < (l0.length : Int)
   ·rw [if_pos c4] at H
    have c4b0 : decide (x15_1 < (l0.length : Int)) = true := decide_eq_true c4
    clear c4
    by_cases c5 : 0 ≤ x15_1
    ·rw [if_pos c5] at H
     have c5b0 : decide (0 ≤ x15_1) = true := decide_eq_true c5
     clear c5
     by_cases c6 : x15_1 < (l0.length : Int)
     ·rw [if_pos c6] at H
      have c6b0 : decide (x15_1 < (l0.length : Int)) = true := decide_eq_true c6
      clear c6
      obtain ⟨y181, hy181⟩ : ∃ y_ : List (List (S37)), y_ = (([rd_L7 l0 x15_1] : List (List (S37)))) := ⟨_, rfl⟩
      replace H : ((sums_Fold_c.f y181 a2).bind fun bt184 => (if bt184.2.2.2.2.2.2.2.2.2 = 0 then (if a1 < 0 then (some (([] : List (S49)), 7)) else (if a1 ≥ ((rd_L7 l0 x15_1).length : Int) then (some (([] : List (S49)), 7)) else (if 0 ≤ a1 then (if a1 < ((rd_L7 l0 x15_1).length : Int) then (if x8_1.length < 1172812402961 then (groups_By.l0 k1 a1 a2 (x8_1 ++ [(⟨(⟨(rd_T37 (rd_L7 l0 x15_1) a1).f0, (rd_T37 (rd_L7 l0 x15_1) a1).f1, (rd_T37 (rd_L7 l0 x15_1) a1).f2⟩ : S37), (⟨bt184.1, bt184.2.1, bt184.2.2.1, (⟨bt184.2.2.2.1, bt184.2.2.2.2.1, bt184.2.2.2.2.2.1⟩ : S37), (⟨bt184.2.2.2.2.2.2.1, bt184.2.2.2.2.2.2.2.1, bt184.2.2.2.2.2.2.2.2.1⟩ : S37)⟩ : S47)⟩ : S49)]) l0 (l0.length : Int) (wrap64 (x15_1 + 1))) else (none)) else (none)) else (none)))) else (some (([] : List (S49)), 7)))) = some (r1, r2) := by first | (rw [hy181]; with_reducible exact H) | (have H2_ := (Option.bind_some _ _).symm.trans H; rw [hy181]; with_reducible exact H2_) | (have H2_ := (Option.bind_some _ _).symm.trans H; with_reducible exact H2_) | with_reducible exact H | (rw [hy181]; exact H) | exact H
      have Ny181 := Aside0.mk hy181
      clear hy181
      replace H := Option.bind_eq_some_iff.mp H
      obtain ⟨⟨t184, t185, t186, t187, t188, t189, t190, t191, t192, t193⟩, A70, H⟩ := H
      replace H : (if t193 = 0 then (if a1 < 0 then (some (([] : List (S49)), 7)) else (if a1 ≥ ((rd_L7 l0 x15_1).length : Int) then (some (([] : List (S49)), 7)) else (if 0 ≤ a1 then (if a1 < ((rd_L7 l0 x15_1).length : Int) then (if x8_1.length < 1172812402961 then (groups_By.l0 k1 a1 a2 (x8_1 ++ [(⟨(⟨(rd_T37 (rd_L7 l0 x15_1) a1).f0, (rd_T37 (rd_L7 l0 x15_1) a1).f1, (rd_T37 (rd_L7 l0 x15_1) a1).f2⟩ : S37), (⟨t184, t185, t186, (⟨t187, t188, t189⟩ : S37), (⟨t190, t191, t192⟩ : S37)⟩ : S47)⟩ : S49)]) l0 (l0.length : Int) (wrap64 (x15_1 + 1))) else (none)) else (none)) else (none)))) else (some (([] : List (S49)), 7))) = some (r1, r2) := H
      have A7 := Aside0.mk A70
      clear A70
      by_cases c8 : t193 = 0
      ·rw [if_pos c8] at H
       have c8b0 : (t193 == 0) = true := beq_iff_eq.mpr c8
       have c8b1 : (t193 != 0) = false := bne_eq_false_iff_eq.mpr c8
       clear c8
       by_cases c9 : a1 < 0
       ·rw [if_pos c9] at H
        have c9b0 : decide (a1 < 0) = true := decide_eq_true c9
        clear c9
        simp only [Option.some.injEq, Prod.mk.injEq] at H
        obtain ⟨rfl, rfl⟩ := H
        have p180 : 0 ≤ (x15_1 : Int) := of_decide_eq_true (by with_reducible assumption)
        have q180 : x15_1 < (l0.length : Int) := of_decide_eq_true (by with_reducible assumption)
        obtain ⟨ad180, A180_0, c180_0, e180, hx180_0, hl180_0, hi180_0⟩ := at_L7 (Kd.V_reads' HO_13.out).2.2 x15_1 p180 q180
        cases e180
        obtain ⟨ce180, hce180, hMe180, hcc180⟩ := Kd.V_get HO_13.out [] x15_1 p180 (by first | exact q180 | exact of_decide_eq_true (by with_reducible assumption) | (have e_ := (Kd.V_reads' HO_13.out).1; omega))
        obtain ⟨ua180_0, uc180_0, rfl, ul180_0, ge180_0⟩ := Kd.FK_slice_open hMe180
        have hv180_0 := hcc180 0 _ rfl
        rw [Nat.add_zero, show ((Kd.slice 37 k37)).sz = 1 from rfl, Nat.mul_one] at hv180_0
        replace hv180_0 := Option.some.inj (hv180_0.symm.trans hx180_0)
        injection hv180_0 with hva_ hvn_ hvc_
        rw [hva_] at ge180_0
        rw [hvc_] at ul180_0
        have HL180_0 := Aside0.mk (show Kd.V k37 37 _ w.heap.size _ _ (rd_L7 l0 x15_1) from Kd.V_mk ul180_0 ge180_0)
        clear hva_ hvn_ hvc_ ge180_0 ul180_0
        clear hcc180 hce180
        have HR180_0 := Aside0.mk hi180_0
        have HC180_0 := Aside0.mk hl180_0
        clear hi180_0 hl180_0
        replace p180 := eq_true p180
        replace q180 := eq_true q180
        go_wp2_with (first | ((with_reducible refine gate_dst (N := 21) rfl ?_); (try (refine gate_guard (by rfl) ?_; dsimp only)); refine Kd.N_lit (Kd.slice 37 k37) _ 39 ?hg (N' := 21) ?hd (xs := ([rd_L7 l0 x15_1] : List (List (S37)))) (inner := [.slice A180_0 (rd_L7 l0 x15_1).length c180_0]) (ok := (fun k_ => (P0_ k_ ∨ w.heap.size ≤ k_) ∧ some k_ ≠ (u8 : Value).ownBlock)) (okp := (fun k_ => (P0_ k_ ∨ w.heap.size ≤ k_) ∧ some k_ ≠ (u8 : Value).ownBlock)) ?hr ?hp (fun _ hk => hk) ((show ∀ k_, wr.heap.size ≤ k_ → (fun k_ => (P0_ k_ ∨ w.heap.size ≤ k_) ∧ some k_ ≠ (u8 : Value).ownBlock) k_ from fun k_ hk => ⟨(.inr (Nat.le_trans (below_size (by with_reducible repeat first | exact HB.out | apply below_alloc | apply pw_below_drewN | apply below_drew1)) hk)), Kd.fresh' (Kd.R_lt (by (with_reducible repeat (first | apply Kd.R_alloc | apply Kd.R_drewN | apply Kd.R_drew)); exact HO_8.out)) k_ hk⟩) _ (Nat.le_refl _)) (Below.refl _ _) (Nat.le_refl _) (by simp) ?_; (case hd => rfl); (case hg => rfl); (case hr => first | (go_simp; done) | (go_simp; rfl)); (case hp => exact (Reps.one (show Kd.FK (Kd.slice 37 k37) _ _ (rd_L7 l0 x15_1) [.slice A180_0 (rd_L7 l0 x15_1).length c180_0] from (Kd.FK_slice_mk (Kd.V_reads' (Kd.V_mono (ok' := (fun k_ => (P0_ k_ ∨ w.heap.size ≤ k_) ∧ some k_ ≠ (u8 : Value).ownBlock)) (HL180_0.out) (fun k_ hk => ⟨hk.1, hk.2⟩))).2.1 (Kd.V_F (Kd.V_mono (ok' := (fun k_ => (P0_ k_ ∨ w.heap.size ≤ k_) ∧ some k_ ≠ (u8 : Value).ownBlock)) (HL180_0.out) (fun k_ hk => ⟨hk.1, hk.2⟩))))) (Reps.none _ _))); intro v182 w10 ho11 hb hg_ hnew_; clear hg_ hnew_; (first | rw [← Ny181.out] at ho11 | (simp only [Int.reduceToNat] at ho11; rw [← Ny181.out] at ho11)); have n0_ := Aside0.mk (Kd.R_below (by (with_reducible repeat (first | apply Kd.R_alloc | apply Kd.R_drewN | apply Kd.R_drew)); exact HO_8.out) hb); have n1_ := Aside0.mk (Kd.V_elder' (by (with_reducible repeat (first | apply Kd.V_alloc | apply Kd.V_drewN | apply Kd.V_drew)); exact HO_13.out) (Kd.N_base ho11) hb); have n2_ := Aside0.mk (Kd.V_elder' (by (with_reducible repeat (first | apply Kd.V_alloc | apply Kd.V_drewN | apply Kd.V_drew)); exact HL180_0.out) (Kd.N_base ho11) hb); have n3_ := Aside0.mk (Kd.N_lower ho11 (below_size (by with_reducible repeat first | exact HB.out | apply below_alloc | apply pw_below_drewN | apply below_drew1))); have n4_ := Aside0.mk (Kd.C_below (by repeat (first | (with_reducible exact HR180_0.out) | (with_reducible refine Kd.C_alloc ?_ _) | (with_reducible refine Kd.C_drewN ?_ _) | (with_reducible refine Kd.C_drew ?_) | exact HR180_0.out)) hb); have n5_ := Aside0.mk (below_step (by with_reducible repeat first | exact HB.out | apply below_alloc | apply pw_below_drewN | apply below_drew1) hb); clear HO_8; clear HO_13; clear HL180_0; clear HR180_0; clear HB; have HO_8 := n0_; have HO_13 := n1_; have HL180_0 := n2_; have HO183 := n3_; have HR180_0 := n4_; have HB := n5_; clear n0_ n1_ n2_ n3_ n4_ n5_; clear hb ho11; obtain ⟨Ao12, co12, eo12⟩ := Kd.N_slice HO183.out; subst eo12) | ((with_reducible refine gate_callee (f := 32) rfl ?_); refine goesL_ (some 23) rfl rfl Try.func32 (by kernel_rfl) rfl #[.slice Ao12 y181.length co12, .int .i64 a2] rfl (by (try simp only [List.map_toArray, List.map_cons, List.map_nil]); first | done | rfl | (simp only [List.length_drop, List.length_take]; rfl)) ?_; (with_reducible refine (sums_Fold_c.calls _ _ y181 a2 t184 t185 t186 t187 t188 t189 t190 t191 t192 t193 _ ?side1 ?side2 A7.out).mono ?_); (case side1 => repeat (first | exact (Kd.N_reads' HO183.out).2.2 | (with_reducible refine Kd.C_alloc ?_ _) | (with_reducible refine Kd.C_drewN ?_ _) | (with_reducible refine Kd.C_drew ?_))); (case side2 => exact (Kd.N_reads' HO183.out).2.1); rintro e w13 ⟨rfl, hb⟩; refine ⟨_, rfl, ?_⟩; have n0_ := Aside0.mk (Kd.R_below (by (with_reducible repeat (first | apply Kd.R_alloc | apply Kd.R_drewN | apply Kd.R_drew)); exact HO_8.out) hb); have n1_ := Aside0.mk (Kd.V_below (by (with_reducible repeat (first | apply Kd.V_alloc | apply Kd.V_drewN | apply Kd.V_drew)); exact HO_13.out) hb); have n2_ := Aside0.mk (Kd.V_below (by (with_reducible repeat (first | apply Kd.V_alloc | apply Kd.V_drewN | apply Kd.V_drew)); exact HL180_0.out) hb); have n3_ := Aside0.mk (Kd.N_below (by (with_reducible repeat (first | apply Kd.N_alloc | apply Kd.N_drewN | apply Kd.N_drew)); exact HO183.out) hb); have n4_ := Aside0.mk (Kd.C_below (by repeat (first | (with_reducible exact HR180_0.out) | (with_reducible refine Kd.C_alloc ?_ _) | (with_reducible refine Kd.C_drewN ?_ _) | (with_reducible refine Kd.C_drew ?_) | exact HR180_0.out)) hb); have n5_ := Aside0.mk (below_step (by with_reducible repeat first | exact HB.out | apply below_alloc | apply pw_below_drewN | apply below_drew1) hb); clear HO_8; clear HO_13; clear HL180_0; clear HO183; clear HR180_0; clear HB; have HO_8 := n0_; have HO_13 := n1_; have HL180_0 := n2_; have HO183 := n3_; have HR180_0 := n4_; have HB := n5_; clear n0_ n1_ n2_ n3_ n4_ n5_; (try clear hb); (try clear hb2); (try clear hk); (try clear hi)) | ((with_reducible refine gate_dst (N := 11) rfl ?_); (try (refine gate_guard (by rfl) ?_; dsimp only)); refine box_event ?hg (N := 11) ?hd (cs := #[.int .i64 0, .int .i64 0, .int .i64 0, .bool false, .int .i64 0, .string (⟨#[]⟩ : ByteArray), .bool false, .int .i64 0, .string (⟨#[]⟩ : ByteArray)]) (t := 47) ?hr ?_; (case hd => rfl); (case hg => rfl); (case hr => first | (go_simp; done) | (go_simp; rfl)); intro gb194 hg w14 hbox hb; have n0_ := Aside0.mk (Kd.R_below (by (with_reducible repeat (first | apply Kd.R_alloc | apply Kd.R_drewN | apply Kd.R_drew)); exact HO_8.out) hb); have n1_ := Aside0.mk (Kd.V_below (Kd.V_elderB (by (with_reducible repeat (first | apply Kd.V_alloc | apply Kd.V_drewN | apply Kd.V_drew)); exact HO_13.out) gb194 (Nat.le_of_eq hg.symm)) hb); have n2_ := Aside0.mk (Kd.V_below (Kd.V_elderB (by (with_reducible repeat (first | apply Kd.V_alloc | apply Kd.V_drewN | apply Kd.V_drew)); exact HL180_0.out) gb194 (Nat.le_of_eq hg.symm)) hb); have n3_ := Aside0.mk (Kd.N_below (Kd.N_elderB (by (with_reducible repeat (first | apply Kd.N_alloc | apply Kd.N_drewN | apply Kd.N_drew)); exact HO183.out) gb194 (Nat.le_of_eq hg.symm)) hb); have n4_ := Aside0.mk (Kd.C_below (by repeat (first | (with_reducible exact HR180_0.out) | (with_reducible refine Kd.C_alloc ?_ _) | (with_reducible refine Kd.C_drewN ?_ _) | (with_reducible refine Kd.C_drew ?_) | exact HR180_0.out)) hb); have n5_ := Aside0.mk (below_step (by with_reducible repeat first | exact HB.out | apply below_alloc | apply pw_below_drewN | apply below_drew1) hb); have n6_ := Aside0.mk (hbox); have n7_ := Aside0.mk ((by rw [hg]; exact (below_size (by with_reducible repeat first | exact HB.out | apply below_alloc | apply pw_below_drewN | apply below_drew1)) : w.heap.size ≤ gb194)); have n8_ := Aside0.mk ((by rw [hg]; exact (below_size (by with_reducible repeat first | exact HB.out | apply below_alloc | apply pw_below_drewN | apply below_drew1)) : w.heap.size ≤ gb194)); clear HO_8; clear HO_13; clear HL180_0; clear HO183; clear HR180_0; clear HB; have HO_8 := n0_; have HO_13 := n1_; have HL180_0 := n2_; have HO183 := n3_; have HR180_0 := n4_; have HB := n5_; have BK194 := n6_; have GW194 := n7_; have GE194 := n8_; clear n0_ n1_ n2_ n3_ n4_ n5_ n6_ n7_ n8_; clear hb hbox hg; obtain ⟨hcz15_0, hcz15_1, hcz15_2, hcz15_3, hcz15_4, hcz15_5, hcz15_6, hcz15_7, hcz15_8⟩ := bc9 BK194.out; obtain ⟨hfz15_0, hfz15_1, hfz15_2, hfz15_3, hfz15_4, hfz15_5, hfz15_6, hfz15_7, hfz15_8⟩ := bf9 BK194.out))
        go_ret2
        exact ⟨_, by first | rfl | (simp [errW_none, errW_some] <;> rfl) | (simp [*, errW_none, errW_some] <;> rfl), by first | exact Kd.R_nil _ _ _ _ _ | exact Kd.N_nil _ _ _ _ _ | exact Kd.V_nil _ _ _ _ _ | exact Kd.Q_nil _ _ _ _ _ | exact Kd.S_nil _ _ _ _ _, by repeat (first | (with_reducible first | exact HB.out | apply below_alloc | apply pw_below_drewN | apply below_drew1 | refine below_set ?_ GE194.out) | exact HB.out)⟩
       ·rw [if_neg c9] at H
        have c9b0 : decide (a1 < 0) = false := decide_eq_false c9
        clear c9
        by_cases c16 : a1 ≥ ((rd_L7 l0 x15_1).length : Int)
        ·rw [if_pos c16] at H
         have c16b0 : decide (((rd_L7 l0 x15_1).length : Int) ≤ a1) = true := decide_eq_true c16
         clear c16
         simp only [Option.some.injEq, Prod.mk.injEq] at H
         obtain ⟨rfl, rfl⟩ := H
         have p180 : 0 ≤ (x15_1 : Int) := of_decide_eq_true (by with_reducible assumption)
         have q180 : x15_1 < (l0.length : Int) := of_decide_eq_true (by with_reducible assumption)
         obtain ⟨ad180, A180_0, c180_0, e180, hx180_0, hl180_0, hi180_0⟩ := at_L7 (Kd.V_reads' HO_13.out).2.2 x15_1 p180 q180
         cases e180
         obtain ⟨ce180, hce180, hMe180, hcc180⟩ := Kd.V_get HO_13.out [] x15_1 p180 (by first | exact q180 | exact of_decide_eq_true (by with_reducible assumption) | (have e_ := (Kd.V_reads' HO_13.out).1; omega))
         obtain ⟨ua180_0, uc180_0, rfl, ul180_0, ge180_0⟩ := Kd.FK_slice_open hMe180
         have hv180_0 := hcc180 0 _ rfl
         rw [Nat.add_zero, show ((Kd.slice 37 k37)).sz = 1 from rfl, Nat.mul_one] at hv180_0
         replace hv180_0 := Option.some.inj (hv180_0.symm.trans hx180_0)
         injection hv180_0 with hva_ hvn_ hvc_
         rw [hva_] at ge180_0
         rw [hvc_] at ul180_0
         have HL180_0 := Aside0.mk (show Kd.V k37 37 _ w.heap.size _ _ (rd_L7 l0 x15_1) from Kd.V_mk ul180_0 ge180_0)
         clear hva_ hvn_ hvc_ ge180_0 ul180_0
         clear hcc180 hce180
         have HR180_0 := Aside0.mk hi180_0
         have HC180_0 := Aside0.mk hl180_0
         clear hi180_0 hl180_0
         replace p180 := eq_true p180
         replace q180 := eq_true q180
         go_wp2_with (first | ((with_reducible refine gate_dst (N := 21) rfl ?_); (try (refine gate_guard (by rfl) ?_; dsimp only)); refine Kd.N_lit (Kd.slice 37 k37) _ 39 ?hg (N' := 21) ?hd (xs := ([rd_L7 l0 x15_1] : List (List (S37)))) (inner := [.slice A180_0 (rd_L7 l0 x15_1).length c180_0]) (ok := (fun k_ => (P0_ k_ ∨ w.heap.size ≤ k_) ∧ some k_ ≠ (u8 : Value).ownBlock)) (okp := (fun k_ => (P0_ k_ ∨ w.heap.size ≤ k_) ∧ some k_ ≠ (u8 : Value).ownBlock)) ?hr ?hp (fun _ hk => hk) ((show ∀ k_, wr.heap.size ≤ k_ → (fun k_ => (P0_ k_ ∨ w.heap.size ≤ k_) ∧ some k_ ≠ (u8 : Value).ownBlock) k_ from fun k_ hk => ⟨(.inr (Nat.le_trans (below_size (by with_reducible repeat first | exact HB.out | apply below_alloc | apply pw_below_drewN | apply below_drew1)) hk)), Kd.fresh' (Kd.R_lt (by (with_reducible repeat (first | apply Kd.R_alloc | apply Kd.R_drewN | apply Kd.R_drew)); exact HO_8.out)) k_ hk⟩) _ (Nat.le_refl _)) (Below.refl _ _) (Nat.le_refl _) (by simp) ?_; (case hd => rfl); (case hg => rfl); (case hr => first | (go_simp; done) | (go_simp; rfl)); (case hp => exact (Reps.one (show Kd.FK (Kd.slice 37 k37) _ _ (rd_L7 l0 x15_1) [.slice A180_0 (rd_L7 l0 x15_1).length c180_0] from (Kd.FK_slice_mk (Kd.V_reads' (Kd.V_mono (ok' := (fun k_ => (P0_ k_ ∨ w.heap.size ≤ k_) ∧ some k_ ≠ (u8 : Value).ownBlock)) (HL180_0.out) (fun k_ hk => ⟨hk.1, hk.2⟩))).2.1 (Kd.V_F (Kd.V_mono (ok' := (fun k_ => (P0_ k_ ∨ w.heap.size ≤ k_) ∧ some k_ ≠ (u8 : Value).ownBlock)) (HL180_0.out) (fun k_ hk => ⟨hk.1, hk.2⟩))))) (Reps.none _ _))); intro v182 w17 ho18 hb hg_ hnew_; clear hg_ hnew_; (first | rw [← Ny181.out] at ho18 | (simp only [Int.reduceToNat] at ho18; rw [← Ny181.out] at ho18)); have n0_ := Aside0.mk (Kd.R_below (by (with_reducible repeat (first | apply Kd.R_alloc | apply Kd.R_drewN | apply Kd.R_drew)); exact HO_8.out) hb); have n1_ := Aside0.mk (Kd.V_elder' (by (with_reducible repeat (first | apply Kd.V_alloc | apply Kd.V_drewN | apply Kd.V_drew)); exact HO_13.out) (Kd.N_base ho18) hb); have n2_ := Aside0.mk (Kd.V_elder' (by (with_reducible repeat (first | apply Kd.V_alloc | apply Kd.V_drewN | apply Kd.V_drew)); exact HL180_0.out) (Kd.N_base ho18) hb); have n3_ := Aside0.mk (Kd.N_lower ho18 (below_size (by with_reducible repeat first | exact HB.out | apply below_alloc | apply pw_below_drewN | apply below_drew1))); have n4_ := Aside0.mk (Kd.C_below (by repeat (first | (with_reducible exact HR180_0.out) | (with_reducible refine Kd.C_alloc ?_ _) | (with_reducible refine Kd.C_drewN ?_ _) | (with_reducible refine Kd.C_drew ?_) | exact HR180_0.out)) hb); have n5_ := Aside0.mk (below_step (by with_reducible repeat first | exact HB.out | apply below_alloc | apply pw_below_drewN | apply below_drew1) hb); clear HO_8; clear HO_13; clear HL180_0; clear HR180_0; clear HB; have HO_8 := n0_; have HO_13 := n1_; have HL180_0 := n2_; have HO183 := n3_; have HR180_0 := n4_; have HB := n5_; clear n0_ n1_ n2_ n3_ n4_ n5_; clear hb ho18; obtain ⟨Ao19, co19, eo19⟩ := Kd.N_slice HO183.out; subst eo19) | ((with_reducible refine gate_callee (f := 32) rfl ?_); refine goesL_ (some 23) rfl rfl Try.func32 (by kernel_rfl) rfl #[.slice Ao19 y181.length co19, .int .i64 a2] rfl (by (try simp only [List.map_toArray, List.map_cons, List.map_nil]); first | done | rfl | (simp only [List.length_drop, List.length_take]; rfl)) ?_; (with_reducible refine (sums_Fold_c.calls _ _ y181 a2 t184 t185 t186 t187 t188 t189 t190 t191 t192 t193 _ ?side1 ?side2 A7.out).mono ?_); (case side1 => repeat (first | exact (Kd.N_reads' HO183.out).2.2 | (with_reducible refine Kd.C_alloc ?_ _) | (with_reducible refine Kd.C_drewN ?_ _) | (with_reducible refine Kd.C_drew ?_))); (case side2 => exact (Kd.N_reads' HO183.out).2.1); rintro e w20 ⟨rfl, hb⟩; refine ⟨_, rfl, ?_⟩; have n0_ := Aside0.mk (Kd.R_below (by (with_reducible repeat (first | apply Kd.R_alloc | apply Kd.R_drewN | apply Kd.R_drew)); exact HO_8.out) hb); have n1_ := Aside0.mk (Kd.V_below (by (with_reducible repeat (first | apply Kd.V_alloc | apply Kd.V_drewN | apply Kd.V_drew)); exact HO_13.out) hb); have n2_ := Aside0.mk (Kd.V_below (by (with_reducible repeat (first | apply Kd.V_alloc | apply Kd.V_drewN | apply Kd.V_drew)); exact HL180_0.out) hb); have n3_ := Aside0.mk (Kd.N_below (by (with_reducible repeat (first | apply Kd.N_alloc | apply Kd.N_drewN | apply Kd.N_drew)); exact HO183.out) hb); have n4_ := Aside0.mk (Kd.C_below (by repeat (first | (with_reducible exact HR180_0.out) | (with_reducible refine Kd.C_alloc ?_ _) | (with_reducible refine Kd.C_drewN ?_ _) | (with_reducible refine Kd.C_drew ?_) | exact HR180_0.out)) hb); have n5_ := Aside0.mk (below_step (by with_reducible repeat first | exact HB.out | apply below_alloc | apply pw_below_drewN | apply below_drew1) hb); clear HO_8; clear HO_13; clear HL180_0; clear HO183; clear HR180_0; clear HB; have HO_8 := n0_; have HO_13 := n1_; have HL180_0 := n2_; have HO183 := n3_; have HR180_0 := n4_; have HB := n5_; clear n0_ n1_ n2_ n3_ n4_ n5_; (try clear hb); (try clear hb2); (try clear hk); (try clear hi)) | ((with_reducible refine gate_dst (N := 11) rfl ?_); (try (refine gate_guard (by rfl) ?_; dsimp only)); refine box_event ?hg (N := 11) ?hd (cs := #[.int .i64 0, .int .i64 0, .int .i64 0, .bool false, .int .i64 0, .string (⟨#[]⟩ : ByteArray), .bool false, .int .i64 0, .string (⟨#[]⟩ : ByteArray)]) (t := 47) ?hr ?_; (case hd => rfl); (case hg => rfl); (case hr => first | (go_simp; done) | (go_simp; rfl)); intro gb194 hg w21 hbox hb; have n0_ := Aside0.mk (Kd.R_below (by (with_reducible repeat (first | apply Kd.R_alloc | apply Kd.R_drewN | apply Kd.R_drew)); exact HO_8.out) hb); have n1_ := Aside0.mk (Kd.V_below (Kd.V_elderB (by (with_reducible repeat (first | apply Kd.V_alloc | apply Kd.V_drewN | apply Kd.V_drew)); exact HO_13.out) gb194 (Nat.le_of_eq hg.symm)) hb); have n2_ := Aside0.mk (Kd.V_below (Kd.V_elderB (by (with_reducible repeat (first | apply Kd.V_alloc | apply Kd.V_drewN | apply Kd.V_drew)); exact HL180_0.out) gb194 (Nat.le_of_eq hg.symm)) hb); have n3_ := Aside0.mk (Kd.N_below (Kd.N_elderB (by (with_reducible repeat (first | apply Kd.N_alloc | apply Kd.N_drewN | apply Kd.N_drew)); exact HO183.out) gb194 (Nat.le_of_eq hg.symm)) hb); have n4_ := Aside0.mk (Kd.C_below (by repeat (first | (with_reducible exact HR180_0.out) | (with_reducible refine Kd.C_alloc ?_ _) | (with_reducible refine Kd.C_drewN ?_ _) | (with_reducible refine Kd.C_drew ?_) | exact HR180_0.out)) hb); have n5_ := Aside0.mk (below_step (by with_reducible repeat first | exact HB.out | apply below_alloc | apply pw_below_drewN | apply below_drew1) hb); have n6_ := Aside0.mk (hbox); have n7_ := Aside0.mk ((by rw [hg]; exact (below_size (by with_reducible repeat first | exact HB.out | apply below_alloc | apply pw_below_drewN | apply below_drew1)) : w.heap.size ≤ gb194)); have n8_ := Aside0.mk ((by rw [hg]; exact (below_size (by with_reducible repeat first | exact HB.out | apply below_alloc | apply pw_below_drewN | apply below_drew1)) : w.heap.size ≤ gb194)); clear HO_8; clear HO_13; clear HL180_0; clear HO183; clear HR180_0; clear HB; have HO_8 := n0_; have HO_13 := n1_; have HL180_0 := n2_; have HO183 := n3_; have HR180_0 := n4_; have HB := n5_; have BK194 := n6_; have GW194 := n7_; have GE194 := n8_; clear n0_ n1_ n2_ n3_ n4_ n5_ n6_ n7_ n8_; clear hb hbox hg; obtain ⟨hcz22_0, hcz22_1, hcz22_2, hcz22_3, hcz22_4, hcz22_5, hcz22_6, hcz22_7, hcz22_8⟩ := bc9 BK194.out; obtain ⟨hfz22_0, hfz22_1, hfz22_2, hfz22_3, hfz22_4, hfz22_5, hfz22_6, hfz22_7, hfz22_8⟩ := bf9 BK194.out))
         go_ret2
         exact ⟨_, by first | rfl | (simp [errW_none, errW_some] <;> rfl) | (simp [*, errW_none, errW_some] <;> rfl), by first | exact Kd.R_nil _ _ _ _ _ | exact Kd.N_nil _ _ _ _ _ | exact Kd.V_nil _ _ _ _ _ | exact Kd.Q_nil _ _ _ _ _ | exact Kd.S_nil _ _ _ _ _, by repeat (first | (with_reducible first | exact HB.out | apply below_alloc | apply pw_below_drewN | apply below_drew1 | refine below_set ?_ GE194.out) | exact HB.out)⟩
        ·rw [if_neg c16] at H
         have c16b0 : decide (((rd_L7 l0 x15_1).length : Int) ≤ a1) = false := decide_eq_false c16
         clear c16
         by_cases c23 : 0 ≤ a1
         ·rw [if_pos c23] at H
          have c23b0 : decide (0 ≤ a1) = true := decide_eq_true c23
          clear c23
          by_cases c24 : a1 < ((rd_L7 l0 x15_1).length : Int)
          ·rw [if_pos c24] at H
           have c24b0 : decide (a1 < ((rd_L7 l0 x15_1).length : Int)) = true := decide_eq_true c24
           clear c24
           by_cases c25 : x8_1.length < 1172812402961
           ·rw [if_pos c25] at H
            have LMc25 := Aside0.mk c25
            clear c25
            obtain ⟨y196, hy196⟩ : ∃ y_ : List (S49), y_ = (x8_1 ++ [(⟨(⟨(rd_T37 (rd_L7 l0 x15_1) a1).f0, (rd_T37 (rd_L7 l0 x15_1) a1).f1, (rd_T37 (rd_L7 l0 x15_1) a1).f2⟩ : S37), (⟨t184, t185, t186, (⟨t187, t188, t189⟩ : S37), (⟨t190, t191, t192⟩ : S37)⟩ : S47)⟩ : S49)]) := ⟨_, rfl⟩
            replace H : (groups_By.l0 k1 a1 a2 y196 l0 (l0.length : Int) (wrap64 (x15_1 + 1))) = some (r1, r2) := by first | (rw [hy196]; with_reducible exact H) | (have H2_ := (Option.bind_some _ _).symm.trans H; rw [hy196]; with_reducible exact H2_) | (have H2_ := (Option.bind_some _ _).symm.trans H; with_reducible exact H2_) | with_reducible exact H | (rw [hy196]; exact H) | exact H
            have Ny196 := Aside0.mk hy196
            clear hy196
            have H' := Aside0.mk H
            clear H
            have p180 : 0 ≤ (x15_1 : Int) := of_decide_eq_true (by with_reducible assumption)
            have q180 : x15_1 < (l0.length : Int) := of_decide_eq_true (by with_reducible assumption)
            obtain ⟨ad180, A180_0, c180_0, e180, hx180_0, hl180_0, hi180_0⟩ := at_L7 (Kd.V_reads' HO_13.out).2.2 x15_1 p180 q180
            cases e180
            obtain ⟨ce180, hce180, hMe180, hcc180⟩ := Kd.V_get HO_13.out [] x15_1 p180 (by first | exact q180 | exact of_decide_eq_true (by with_reducible assumption) | (have e_ := (Kd.V_reads' HO_13.out).1; omega))
            obtain ⟨ua180_0, uc180_0, rfl, ul180_0, ge180_0⟩ := Kd.FK_slice_open hMe180
            have hv180_0 := hcc180 0 _ rfl
            rw [Nat.add_zero, show ((Kd.slice 37 k37)).sz = 1 from rfl, Nat.mul_one] at hv180_0
            replace hv180_0 := Option.some.inj (hv180_0.symm.trans hx180_0)
            injection hv180_0 with hva_ hvn_ hvc_
            rw [hva_] at ge180_0
            rw [hvc_] at ul180_0
            have HL180_0 := Aside0.mk (show Kd.V k37 37 _ w.heap.size _ _ (rd_L7 l0 x15_1) from Kd.V_mk ul180_0 ge180_0)
            clear hva_ hvn_ hvc_ ge180_0 ul180_0
            clear hcc180 hce180
            have HR180_0 := Aside0.mk hi180_0
            have HC180_0 := Aside0.mk hl180_0
            clear hi180_0 hl180_0
            replace p180 := eq_true p180
            replace q180 := eq_true q180
            try go_wp2_with (first | ((with_reducible refine gate_dst (N := 21) rfl ?_); (try (refine gate_guard (by rfl) ?_; dsimp only)); refine Kd.N_lit (Kd.slice 37 k37) _ 39 ?hg (N' := 21) ?hd (xs := ([rd_L7 l0 x15_1] : List (List (S37)))) (inner := [.slice A180_0 (rd_L7 l0 x15_1).length c180_0]) (ok := (fun k_ => (P0_ k_ ∨ w.heap.size ≤ k_) ∧ some k_ ≠ (u8 : Value).ownBlock)) (okp := (fun k_ => (P0_ k_ ∨ w.heap.size ≤ k_) ∧ some k_ ≠ (u8 : Value).ownBlock)) ?hr ?hp (fun _ hk => hk) ((show ∀ k_, wr.heap.size ≤ k_ → (fun k_ => (P0_ k_ ∨ w.heap.size ≤ k_) ∧ some k_ ≠ (u8 : Value).ownBlock) k_ from fun k_ hk => ⟨(.inr (Nat.le_trans (below_size (by with_reducible repeat first | exact HB.out | apply below_alloc | apply pw_below_drewN | apply below_drew1)) hk)), Kd.fresh' (Kd.R_lt (by (with_reducible repeat (first | apply Kd.R_alloc | apply Kd.R_drewN | apply Kd.R_drew)); exact HO_8.out)) k_ hk⟩) _ (Nat.le_refl _)) (Below.refl _ _) (Nat.le_refl _) (by simp) ?_; (case hd => rfl); (case hg => rfl); (case hr => first | (go_simp; done) | (go_simp; rfl)); (case hp => exact (Reps.one (show Kd.FK (Kd.slice 37 k37) _ _ (rd_L7 l0 x15_1) [.slice A180_0 (rd_L7 l0 x15_1).length c180_0] from (Kd.FK_slice_mk (Kd.V_reads' (Kd.V_mono (ok' := (fun k_ => (P0_ k_ ∨ w.heap.size ≤ k_) ∧ some k_ ≠ (u8 : Value).ownBlock)) (HL180_0.out) (fun k_ hk => ⟨hk.1, hk.2⟩))).2.1 (Kd.V_F (Kd.V_mono (ok' := (fun k_ => (P0_ k_ ∨ w.heap.size ≤ k_) ∧ some k_ ≠ (u8 : Value).ownBlock)) (HL180_0.out) (fun k_ hk => ⟨hk.1, hk.2⟩))))) (Reps.none _ _))); intro v182 w26 ho27 hb hg_ hnew_; clear hg_ hnew_; (first | rw [← Ny181.out] at ho27 | (simp only [Int.reduceToNat] at ho27; rw [← Ny181.out] at ho27)); have n0_ := Aside0.mk (Kd.R_below (by (with_reducible repeat (first | apply Kd.R_alloc | apply Kd.R_drewN | apply Kd.R_drew)); exact HO_8.out) hb); have n1_ := Aside0.mk (Kd.V_elder' (by (with_reducible repeat (first | apply Kd.V_alloc | apply Kd.V_drewN | apply Kd.V_drew)); exact HO_13.out) (Kd.N_base ho27) hb); have n2_ := Aside0.mk (Kd.V_elder' (by (with_reducible repeat (first | apply Kd.V_alloc | apply Kd.V_drewN | apply Kd.V_drew)); exact HL180_0.out) (Kd.N_base ho27) hb); have n3_ := Aside0.mk (Kd.N_lower ho27 (below_size (by with_reducible repeat first | exact HB.out | apply below_alloc | apply pw_below_drewN | apply below_drew1))); have n4_ := Aside0.mk (Kd.C_below (by repeat (first | (with_reducible exact HR180_0.out) | (with_reducible refine Kd.C_alloc ?_ _) | (with_reducible refine Kd.C_drewN ?_ _) | (with_reducible refine Kd.C_drew ?_) | exact HR180_0.out)) hb); have n5_ := Aside0.mk (below_step (by with_reducible repeat first | exact HB.out | apply below_alloc | apply pw_below_drewN | apply below_drew1) hb); clear HO_8; clear HO_13; clear HL180_0; clear HR180_0; clear HB; have HO_8 := n0_; have HO_13 := n1_; have HL180_0 := n2_; have HO183 := n3_; have HR180_0 := n4_; have HB := n5_; clear n0_ n1_ n2_ n3_ n4_ n5_; clear hb ho27; obtain ⟨Ao28, co28, eo28⟩ := Kd.N_slice HO183.out; subst eo28) | ((with_reducible refine gate_callee (f := 32) rfl ?_); refine goesL_ (some 23) rfl rfl Try.func32 (by kernel_rfl) rfl #[.slice Ao28 y181.length co28, .int .i64 a2] rfl (by (try simp only [List.map_toArray, List.map_cons, List.map_nil]); first | done | rfl | (simp only [List.length_drop, List.length_take]; rfl)) ?_; (with_reducible refine (sums_Fold_c.calls _ _ y181 a2 t184 t185 t186 t187 t188 t189 t190 t191 t192 t193 _ ?side1 ?side2 A7.out).mono ?_); (case side1 => repeat (first | exact (Kd.N_reads' HO183.out).2.2 | (with_reducible refine Kd.C_alloc ?_ _) | (with_reducible refine Kd.C_drewN ?_ _) | (with_reducible refine Kd.C_drew ?_))); (case side2 => exact (Kd.N_reads' HO183.out).2.1); rintro e w29 ⟨rfl, hb⟩; refine ⟨_, rfl, ?_⟩; have n0_ := Aside0.mk (Kd.R_below (by (with_reducible repeat (first | apply Kd.R_alloc | apply Kd.R_drewN | apply Kd.R_drew)); exact HO_8.out) hb); have n1_ := Aside0.mk (Kd.V_below (by (with_reducible repeat (first | apply Kd.V_alloc | apply Kd.V_drewN | apply Kd.V_drew)); exact HO_13.out) hb); have n2_ := Aside0.mk (Kd.V_below (by (with_reducible repeat (first | apply Kd.V_alloc | apply Kd.V_drewN | apply Kd.V_drew)); exact HL180_0.out) hb); have n3_ := Aside0.mk (Kd.N_below (by (with_reducible repeat (first | apply Kd.N_alloc | apply Kd.N_drewN | apply Kd.N_drew)); exact HO183.out) hb); have n4_ := Aside0.mk (Kd.C_below (by repeat (first | (with_reducible exact HR180_0.out) | (with_reducible refine Kd.C_alloc ?_ _) | (with_reducible refine Kd.C_drewN ?_ _) | (with_reducible refine Kd.C_drew ?_) | exact HR180_0.out)) hb); have n5_ := Aside0.mk (below_step (by with_reducible repeat first | exact HB.out | apply below_alloc | apply pw_below_drewN | apply below_drew1) hb); clear HO_8; clear HO_13; clear HL180_0; clear HO183; clear HR180_0; clear HB; have HO_8 := n0_; have HO_13 := n1_; have HL180_0 := n2_; have HO183 := n3_; have HR180_0 := n4_; have HB := n5_; clear n0_ n1_ n2_ n3_ n4_ n5_; (try clear hb); (try clear hb2); (try clear hk); (try clear hi)) | ((with_reducible refine gate_dst (N := 11) rfl ?_); (try (refine gate_guard (by rfl) ?_; dsimp only)); refine box_event ?hg (N := 11) ?hd (cs := #[.int .i64 0, .int .i64 0, .int .i64 0, .bool false, .int .i64 0, .string (⟨#[]⟩ : ByteArray), .bool false, .int .i64 0, .string (⟨#[]⟩ : ByteArray)]) (t := 47) ?hr ?_; (case hd => rfl); (case hg => rfl); (case hr => first | (go_simp; done) | (go_simp; rfl)); intro gb194 hg w30 hbox hb; have n0_ := Aside0.mk (Kd.R_below (by (with_reducible repeat (first | apply Kd.R_alloc | apply Kd.R_drewN | apply Kd.R_drew)); exact HO_8.out) hb); have n1_ := Aside0.mk (Kd.V_below (Kd.V_elderB (by (with_reducible repeat (first | apply Kd.V_alloc | apply Kd.V_drewN | apply Kd.V_drew)); exact HO_13.out) gb194 (Nat.le_of_eq hg.symm)) hb); have n2_ := Aside0.mk (Kd.V_below (Kd.V_elderB (by (with_reducible repeat (first | apply Kd.V_alloc | apply Kd.V_drewN | apply Kd.V_drew)); exact HL180_0.out) gb194 (Nat.le_of_eq hg.symm)) hb); have n3_ := Aside0.mk (Kd.N_below (Kd.N_elderB (by (with_reducible repeat (first | apply Kd.N_alloc | apply Kd.N_drewN | apply Kd.N_drew)); exact HO183.out) gb194 (Nat.le_of_eq hg.symm)) hb); have n4_ := Aside0.mk (Kd.C_below (by repeat (first | (with_reducible exact HR180_0.out) | (with_reducible refine Kd.C_alloc ?_ _) | (with_reducible refine Kd.C_drewN ?_ _) | (with_reducible refine Kd.C_drew ?_) | exact HR180_0.out)) hb); have n5_ := Aside0.mk (below_step (by with_reducible repeat first | exact HB.out | apply below_alloc | apply pw_below_drewN | apply below_drew1) hb); have n6_ := Aside0.mk (hbox); have n7_ := Aside0.mk ((by rw [hg]; exact (below_size (by with_reducible repeat first | exact HB.out | apply below_alloc | apply pw_below_drewN | apply below_drew1)) : w.heap.size ≤ gb194)); have n8_ := Aside0.mk ((by rw [hg]; exact (below_size (by with_reducible repeat first | exact HB.out | apply below_alloc | apply pw_below_drewN | apply below_drew1)) : w.heap.size ≤ gb194)); clear HO_8; clear HO_13; clear HL180_0; clear HO183; clear HR180_0; clear HB; have HO_8 := n0_; have HO_13 := n1_; have HL180_0 := n2_; have HO183 := n3_; have HR180_0 := n4_; have HB := n5_; have BK194 := n6_; have GW194 := n7_; have GE194 := n8_; clear n0_ n1_ n2_ n3_ n4_ n5_ n6_ n7_ n8_; clear hb hbox hg; obtain ⟨hcz31_0, hcz31_1, hcz31_2, hcz31_3, hcz31_4, hcz31_5, hcz31_6, hcz31_7, hcz31_8⟩ := bc9 BK194.out; obtain ⟨hfz31_0, hfz31_1, hfz31_2, hfz31_3, hfz31_4, hfz31_5, hfz31_6, hfz31_7, hfz31_8⟩ := bf9 BK194.out))
            have n0_ : Aside0 (Kd.R k49 49 (((((((((w30.setCell ⟨gb194, 0, none⟩ (.int .i64 t184)).setCell ⟨gb194, 1, none⟩ (.int .i64 t185)).setCell ⟨gb194, 2, none⟩ (.int .i64 t186)).setCell ⟨gb194, 3, none⟩ (.bool t187)).setCell ⟨gb194, 4, none⟩ (.int .i64 t188)).setCell ⟨gb194, 5, none⟩ (.string t189)).setCell ⟨gb194, 6, none⟩ (.bool t190)).setCell ⟨gb194, 7, none⟩ (.int .i64 t191)).setCell ⟨gb194, 8, none⟩ (.string t192)) w.heap.size (fun k_ => (w.heap.size ≤ k_)) u8 x8_1) := ⟨by (with_reducible repeat (first | apply Kd.R_alloc | apply Kd.R_drewN | apply Kd.R_drew)); exact Kd.R_mono (Kd.R_far (p := ⟨gb194, 8, none⟩) (Kd.R_far (p := ⟨gb194, 7, none⟩) (Kd.R_far (p := ⟨gb194, 6, none⟩) (Kd.R_far (p := ⟨gb194, 5, none⟩) (Kd.R_far (p := ⟨gb194, 4, none⟩) (Kd.R_far (p := ⟨gb194, 3, none⟩) (Kd.R_far (p := ⟨gb194, 2, none⟩) (Kd.R_far (p := ⟨gb194, 1, none⟩) (Kd.R_far (p := ⟨gb194, 0, none⟩) (Kd.R_types HO_8.out BK194.out (by decide)) (fun _ hk => hk.2) (.int .i64 t184)) (fun _ hk => hk.2) (.int .i64 t185)) (fun _ hk => hk.2) (.int .i64 t186)) (fun _ hk => hk.2) (.bool t187)) (fun _ hk => hk.2) (.int .i64 t188)) (fun _ hk => hk.2) (.string t189)) (fun _ hk => hk.2) (.bool t190)) (fun _ hk => hk.2) (.int .i64 t191)) (fun _ hk => hk.2) (.string t192)) (fun _ hk => hk.1)⟩
            have n1_ : Aside0 (Kd.V (Kd.slice 37 k37) 39 (((((((((w30.setCell ⟨gb194, 0, none⟩ (.int .i64 t184)).setCell ⟨gb194, 1, none⟩ (.int .i64 t185)).setCell ⟨gb194, 2, none⟩ (.int .i64 t186)).setCell ⟨gb194, 3, none⟩ (.bool t187)).setCell ⟨gb194, 4, none⟩ (.int .i64 t188)).setCell ⟨gb194, 5, none⟩ (.string t189)).setCell ⟨gb194, 6, none⟩ (.bool t190)).setCell ⟨gb194, 7, none⟩ (.int .i64 t191)).setCell ⟨gb194, 8, none⟩ (.string t192)) w.heap.size (fun k_ => (P0_ k_ ∨ w.heap.size ≤ k_) ∧ some k_ ≠ (u8 : Value).ownBlock ∧ some k_ ≠ (.slice Ao28 y181.length co28 : Value).ownBlock ∧ k_ ≠ gb194) (.slice (some ad180) l0.length c0) l0) := ⟨by (with_reducible repeat (first | apply Kd.V_alloc | apply Kd.V_drewN | apply Kd.V_drew)); exact Kd.V_mono (Kd.V_far (p := ⟨gb194, 8, none⟩) (Kd.V_far (p := ⟨gb194, 7, none⟩) (Kd.V_far (p := ⟨gb194, 6, none⟩) (Kd.V_far (p := ⟨gb194, 5, none⟩) (Kd.V_far (p := ⟨gb194, 4, none⟩) (Kd.V_far (p := ⟨gb194, 3, none⟩) (Kd.V_far (p := ⟨gb194, 2, none⟩) (Kd.V_far (p := ⟨gb194, 1, none⟩) (Kd.V_far (p := ⟨gb194, 0, none⟩) (Kd.V_mono HO_13.out (fun k_ hk => (⟨hk, hk.2⟩ : _ ∧ k_ ≠ gb194))) (fun _ hk => hk.2) (.int .i64 t184)) (fun _ hk => hk.2) (.int .i64 t185)) (fun _ hk => hk.2) (.int .i64 t186)) (fun _ hk => hk.2) (.bool t187)) (fun _ hk => hk.2) (.int .i64 t188)) (fun _ hk => hk.2) (.string t189)) (fun _ hk => hk.2) (.bool t190)) (fun _ hk => hk.2) (.int .i64 t191)) (fun _ hk => hk.2) (.string t192)) (fun _ hk => ⟨hk.1.1.1.1, ⟨hk.1.1.1.2, ⟨hk.1.1.2, hk.1.2⟩⟩⟩)⟩
            have n2_ : Aside0 (Kd.V k37 37 (((((((((w30.setCell ⟨gb194, 0, none⟩ (.int .i64 t184)).setCell ⟨gb194, 1, none⟩ (.int .i64 t185)).setCell ⟨gb194, 2, none⟩ (.int .i64 t186)).setCell ⟨gb194, 3, none⟩ (.bool t187)).setCell ⟨gb194, 4, none⟩ (.int .i64 t188)).setCell ⟨gb194, 5, none⟩ (.string t189)).setCell ⟨gb194, 6, none⟩ (.bool t190)).setCell ⟨gb194, 7, none⟩ (.int .i64 t191)).setCell ⟨gb194, 8, none⟩ (.string t192)) w.heap.size (fun k_ => (P0_ k_ ∨ w.heap.size ≤ k_) ∧ some k_ ≠ (u8 : Value).ownBlock ∧ some k_ ≠ (.slice Ao28 y181.length co28 : Value).ownBlock ∧ k_ ≠ gb194) (.slice A180_0 (rd_L7 l0 x15_1).length c180_0) (rd_L7 l0 x15_1)) := ⟨by (with_reducible repeat (first | apply Kd.V_alloc | apply Kd.V_drewN | apply Kd.V_drew)); exact Kd.V_mono (Kd.V_far (p := ⟨gb194, 8, none⟩) (Kd.V_far (p := ⟨gb194, 7, none⟩) (Kd.V_far (p := ⟨gb194, 6, none⟩) (Kd.V_far (p := ⟨gb194, 5, none⟩) (Kd.V_far (p := ⟨gb194, 4, none⟩) (Kd.V_far (p := ⟨gb194, 3, none⟩) (Kd.V_far (p := ⟨gb194, 2, none⟩) (Kd.V_far (p := ⟨gb194, 1, none⟩) (Kd.V_far (p := ⟨gb194, 0, none⟩) (Kd.V_mono HL180_0.out (fun k_ hk => (⟨hk, hk.2⟩ : _ ∧ k_ ≠ gb194))) (fun _ hk => hk.2) (.int .i64 t184)) (fun _ hk => hk.2) (.int .i64 t185)) (fun _ hk => hk.2) (.int .i64 t186)) (fun _ hk => hk.2) (.bool t187)) (fun _ hk => hk.2) (.int .i64 t188)) (fun _ hk => hk.2) (.string t189)) (fun _ hk => hk.2) (.bool t190)) (fun _ hk => hk.2) (.int .i64 t191)) (fun _ hk => hk.2) (.string t192)) (fun _ hk => ⟨hk.1.1.1.1, ⟨hk.1.1.1.2, ⟨hk.1.1.2, hk.1.2⟩⟩⟩)⟩
            have n3_ : Aside0 (Kd.N (Kd.slice 37 k37) 39 (((((((((w30.setCell ⟨gb194, 0, none⟩ (.int .i64 t184)).setCell ⟨gb194, 1, none⟩ (.int .i64 t185)).setCell ⟨gb194, 2, none⟩ (.int .i64 t186)).setCell ⟨gb194, 3, none⟩ (.bool t187)).setCell ⟨gb194, 4, none⟩ (.int .i64 t188)).setCell ⟨gb194, 5, none⟩ (.string t189)).setCell ⟨gb194, 6, none⟩ (.bool t190)).setCell ⟨gb194, 7, none⟩ (.int .i64 t191)).setCell ⟨gb194, 8, none⟩ (.string t192)) w.heap.size (fun k_ => (P0_ k_ ∨ w.heap.size ≤ k_) ∧ some k_ ≠ (u8 : Value).ownBlock ∧ k_ ≠ gb194) (.slice Ao28 y181.length co28) y181) := ⟨by (with_reducible repeat (first | apply Kd.N_alloc | apply Kd.N_drewN | apply Kd.N_drew)); exact Kd.N_mono (Kd.N_far (p := ⟨gb194, 8, none⟩) (Kd.N_far (p := ⟨gb194, 7, none⟩) (Kd.N_far (p := ⟨gb194, 6, none⟩) (Kd.N_far (p := ⟨gb194, 5, none⟩) (Kd.N_far (p := ⟨gb194, 4, none⟩) (Kd.N_far (p := ⟨gb194, 3, none⟩) (Kd.N_far (p := ⟨gb194, 2, none⟩) (Kd.N_far (p := ⟨gb194, 1, none⟩) (Kd.N_far (p := ⟨gb194, 0, none⟩) (Kd.N_mono HO183.out (fun k_ hk => (⟨hk, hk.2⟩ : _ ∧ k_ ≠ gb194))) (fun _ hk => hk.2) (.int .i64 t184)) (fun _ hk => hk.2) (.int .i64 t185)) (fun _ hk => hk.2) (.int .i64 t186)) (fun _ hk => hk.2) (.bool t187)) (fun _ hk => hk.2) (.int .i64 t188)) (fun _ hk => hk.2) (.string t189)) (fun _ hk => hk.2) (.bool t190)) (fun _ hk => hk.2) (.int .i64 t191)) (fun _ hk => hk.2) (.string t192)) (fun _ hk => ⟨hk.1.1.1, ⟨hk.1.1.2, hk.1.2⟩⟩)⟩
            have n4_ : Aside0 ((((((((((w30.setCell ⟨gb194, 0, none⟩ (.int .i64 t184)).setCell ⟨gb194, 1, none⟩ (.int .i64 t185)).setCell ⟨gb194, 2, none⟩ (.int .i64 t186)).setCell ⟨gb194, 3, none⟩ (.bool t187)).setCell ⟨gb194, 4, none⟩ (.int .i64 t188)).setCell ⟨gb194, 5, none⟩ (.string t189)).setCell ⟨gb194, 6, none⟩ (.bool t190)).setCell ⟨gb194, 7, none⟩ (.int .i64 t191)).setCell ⟨gb194, 8, none⟩ (.string t192)).heap[gb194]? = some (.cells #[.int .i64 t184, .int .i64 t185, .int .i64 t186, .bool t187, .int .i64 t188, .string t189, .bool t190, .int .i64 t191, .string t192] 47 (0, 0))) := ⟨by refine blk_put (cs := #[.int .i64 t184, .int .i64 t185, .int .i64 t186, .bool t187, .int .i64 t188, .string t189, .bool t190, .int .i64 t191, .string (⟨#[]⟩ : ByteArray)]) ?_ 8 _ rfl; refine blk_put (cs := #[.int .i64 t184, .int .i64 t185, .int .i64 t186, .bool t187, .int .i64 t188, .string t189, .bool t190, .int .i64 0, .string (⟨#[]⟩ : ByteArray)]) ?_ 7 _ rfl; refine blk_put (cs := #[.int .i64 t184, .int .i64 t185, .int .i64 t186, .bool t187, .int .i64 t188, .string t189, .bool false, .int .i64 0, .string (⟨#[]⟩ : ByteArray)]) ?_ 6 _ rfl; refine blk_put (cs := #[.int .i64 t184, .int .i64 t185, .int .i64 t186, .bool t187, .int .i64 t188, .string (⟨#[]⟩ : ByteArray), .bool false, .int .i64 0, .string (⟨#[]⟩ : ByteArray)]) ?_ 5 _ rfl; refine blk_put (cs := #[.int .i64 t184, .int .i64 t185, .int .i64 t186, .bool t187, .int .i64 0, .string (⟨#[]⟩ : ByteArray), .bool false, .int .i64 0, .string (⟨#[]⟩ : ByteArray)]) ?_ 4 _ rfl; refine blk_put (cs := #[.int .i64 t184, .int .i64 t185, .int .i64 t186, .bool false, .int .i64 0, .string (⟨#[]⟩ : ByteArray), .bool false, .int .i64 0, .string (⟨#[]⟩ : ByteArray)]) ?_ 3 _ rfl; refine blk_put (cs := #[.int .i64 t184, .int .i64 t185, .int .i64 0, .bool false, .int .i64 0, .string (⟨#[]⟩ : ByteArray), .bool false, .int .i64 0, .string (⟨#[]⟩ : ByteArray)]) ?_ 2 _ rfl; refine blk_put (cs := #[.int .i64 t184, .int .i64 0, .int .i64 0, .bool false, .int .i64 0, .string (⟨#[]⟩ : ByteArray), .bool false, .int .i64 0, .string (⟨#[]⟩ : ByteArray)]) ?_ 1 _ rfl; refine blk_put (cs := #[.int .i64 0, .int .i64 0, .int .i64 0, .bool false, .int .i64 0, .string (⟨#[]⟩ : ByteArray), .bool false, .int .i64 0, .string (⟨#[]⟩ : ByteArray)]) ?_ 0 _ rfl; (with_reducible repeat (first | refine blk_drewN ?_ _ | refine blk_drew ?_ | refine blk_alloc ?_ _)); exact BK194.out⟩
            have n5_ : Aside0 (Below w.heap.size w (((((((((w30.setCell ⟨gb194, 0, none⟩ (.int .i64 t184)).setCell ⟨gb194, 1, none⟩ (.int .i64 t185)).setCell ⟨gb194, 2, none⟩ (.int .i64 t186)).setCell ⟨gb194, 3, none⟩ (.bool t187)).setCell ⟨gb194, 4, none⟩ (.int .i64 t188)).setCell ⟨gb194, 5, none⟩ (.string t189)).setCell ⟨gb194, 6, none⟩ (.bool t190)).setCell ⟨gb194, 7, none⟩ (.int .i64 t191)).setCell ⟨gb194, 8, none⟩ (.string t192))) := ⟨by repeat (first | (with_reducible first | exact HB.out | apply below_alloc | apply pw_below_drewN | apply below_drew1 | refine below_set ?_ GE194.out) | exact HB.out)⟩
            (try clear HO_8)
            (try clear HO_13)
            (try clear HL180_0)
            (try clear HO183)
            (try clear BK194)
            (try clear HB)
            generalize (((((((((w30.setCell ⟨gb194, 0, none⟩ (.int .i64 t184)).setCell ⟨gb194, 1, none⟩ (.int .i64 t185)).setCell ⟨gb194, 2, none⟩ (.int .i64 t186)).setCell ⟨gb194, 3, none⟩ (.bool t187)).setCell ⟨gb194, 4, none⟩ (.int .i64 t188)).setCell ⟨gb194, 5, none⟩ (.string t189)).setCell ⟨gb194, 6, none⟩ (.bool t190)).setCell ⟨gb194, 7, none⟩ (.int .i64 t191)).setCell ⟨gb194, 8, none⟩ (.string t192)) = w32 at n0_ n1_ n2_ n3_ n4_ n5_ ⊢
            have HO_8 := n0_
            have HO_13 := n1_
            have HL180_0 := n2_
            have HO183 := n3_
            have BK194 := n4_
            have HB := n5_
            clear n0_ n1_ n2_ n3_ n4_ n5_
            have n0_ := Aside0.mk (Kd.R_drew HO_8.out)
            have n1_ := Aside0.mk (Kd.V_drew HO_13.out)
            have n2_ := Aside0.mk (Kd.V_drew HL180_0.out)
            have n3_ := Aside0.mk (Kd.N_drew HO183.out)
            have n4_ := Aside0.mk (blk_drew BK194.out)
            have n5_ := Aside0.mk (below_drew1 HB.out)
            clear HO_8
            clear HO_13
            clear HL180_0
            clear HO183
            clear BK194
            clear HB
            have HO_8 := n0_
            have HO_13 := n1_
            have HL180_0 := n2_
            have HO183 := n3_
            have BK194 := n4_
            have HB := n5_
            clear n0_ n1_ n2_ n3_ n4_ n5_
            have p195 : 0 ≤ (a1 : Int) := of_decide_eq_true (by with_reducible assumption)
            have q195 : a1 < ((rd_L7 l0 x15_1).length : Int) := of_decide_eq_true (by with_reducible assumption)
            obtain ⟨ad195, e195, hx195_0, hx195_1, hx195_2⟩ := at_T37 ((Kd.V_reads' (by first | exact HL180_0.out | ((with_reducible repeat (first | apply Kd.V_alloc | apply Kd.V_drewN | apply Kd.V_drew)); exact HL180_0.out))).2.2) a1 p195 q195
            cases e195
            replace p195 := eq_true p195
            replace q195 := eq_true q195
            refine start_ (n := 10) (S := fun w' => w'.cell? ⟨gb194, 0, none⟩ = some (.int .i64 t184) ∧ w'.cell? ⟨gb194, 1, none⟩ = some (.int .i64 t185) ∧ w'.cell? ⟨gb194, 2, none⟩ = some (.int .i64 t186) ∧ w'.cell? ⟨gb194, 3, none⟩ = some (.bool t187) ∧ w'.cell? ⟨gb194, 4, none⟩ = some (.int .i64 t188) ∧ w'.cell? ⟨gb194, 5, none⟩ = some (.string t189) ∧ w'.cell? ⟨gb194, 6, none⟩ = some (.bool t190) ∧ w'.cell? ⟨gb194, 7, none⟩ = some (.int .i64 t191) ∧ w'.cell? ⟨gb194, 8, none⟩ = some (.string t192) ∧ w'.cell? (ad195.add ((a1).toNat * 3)) = some (.bool ((rd_T37 (rd_L7 l0 x15_1) a1).f0)) ∧ w'.cell? ⟨(ad195.add ((a1).toNat * 3)).block, (ad195.add ((a1).toNat * 3)).off + 1, none⟩ = some (.int .i64 ((rd_T37 (rd_L7 l0 x15_1) a1).f1)) ∧ w'.cell? ⟨(ad195.add ((a1).toNat * 3)).block, (ad195.add ((a1).toNat * 3)).off + 2, none⟩ = some (.string ((rd_T37 (rd_L7 l0 x15_1) a1).f2))) (ds := [7, 8]) #[false, false, false, false, false, false, false, false, false, false] (by kernel_rfl) rfl rfl ⟨(blk_cell BK194.out 0).trans rfl, (blk_cell BK194.out 1).trans rfl, (blk_cell BK194.out 2).trans rfl, (blk_cell BK194.out 3).trans rfl, (blk_cell BK194.out 4).trans rfl, (blk_cell BK194.out 5).trans rfl, (blk_cell BK194.out 6).trans rfl, (blk_cell BK194.out 7).trans rfl, (blk_cell BK194.out 8).trans rfl, hx195_0, hx195_1, hx195_2⟩ (fun hHeld => ?_); refine with_tabW groups_By.tab8 groups_By.bits8 (fun HT_ HW_ => ?_)
            generalize w32.drew = w33 at HO_8 HO_13 HL180_0 HO183 BK194 HB hx195_0 hx195_1 hx195_2 hHeld ⊢
            refine pure_ (i := 0) (N := some 38) (v := ?_) (a' := ?_) #[true, false, false, false, false, false, false, false, false, false] rfl rfl (any_of HT_.out (by kernel_rfl)) (fun _ _ _ h => h) (Or.inl ⟨by rfl, ?_⟩) ?_ ?_
            rotate_left
            ·intro w'
             go_simp
             with_reducible rfl
            rotate_left
            ·simp only [Act.put, List.setIfInBounds_toArray, List.set_cons_zero, List.set_cons_succ, i64_w, i32_w]
             rfl
            refine pure_ (i := 1) (N := some 39) (v := ?_) (a' := ?_) #[true, true, false, false, false, false, false, false, false, false] rfl rfl (any_of HT_.out (by kernel_rfl)) (fun _ _ _ h => h) (Or.inl ⟨by rfl, ?_⟩) ?_ ?_
            rotate_left
            ·intro w'
             go_simp
             with_reducible rfl
            rotate_left
            ·simp only [Act.put, List.setIfInBounds_toArray, List.set_cons_zero, List.set_cons_succ, i64_w, i32_w]
             rfl
            refine pure_ (i := 2) (N := some 40) (v := ?_) (a' := ?_) #[true, true, true, false, false, false, false, false, false, false] rfl rfl (any_of HT_.out (by kernel_rfl)) (fun _ _ _ h => h) (Or.inl ⟨by rfl, ?_⟩) ?_ ?_
            rotate_left
            ·intro w'
             go_simp
             with_reducible rfl
            rotate_left
            ·simp only [Act.put, List.setIfInBounds_toArray, List.set_cons_zero, List.set_cons_succ, i64_w, i32_w]
             rfl
            refine pure_ (i := 3) (N := some 41) (v := ?_) (a' := ?_) #[true, true, true, true, false, false, false, false, false, false] rfl rfl (any_of HT_.out (by kernel_rfl)) (fun _ _ _ h => h) (Or.inl ⟨by rfl, ?_⟩) ?_ ?_
            rotate_left
            ·intro w'
             go_simp
             with_reducible rfl
            rotate_left
            ·simp only [Act.put, List.setIfInBounds_toArray, List.set_cons_zero, List.set_cons_succ, i64_w, i32_w]
             rfl
            refine take_ (i := 4) (N := some 42) (v := ?_) (a' := ?_) #[true, true, true, true, true, false, false, false, false, false] rfl rfl (take_ofW HT_.out HW_.out (by kernel_rfl)) (fun _ _ _ h => h) (Or.inl ⟨by rfl, ?_⟩) hHeld ?_ ?_
            rotate_left
            ·rintro w' ⟨s0, s1, s2, s3, s4, s5, s6, s7, s8, s9, s10, s11⟩
             go_simp
             with_reducible rfl
            rotate_left
            ·simp only [Act.put, List.setIfInBounds_toArray, List.set_cons_zero, List.set_cons_succ, i64_w, i32_w]
             rfl
            refine take_ (i := 5) (N := some 43) (v := ?_) (a' := ?_) #[true, true, true, true, true, true, false, false, false, false] rfl rfl (take_ofW HT_.out HW_.out (by kernel_rfl)) (fun _ _ _ h => h) (Or.inl ⟨by rfl, ?_⟩) hHeld ?_ ?_
            rotate_left
            ·rintro w' ⟨s0, s1, s2, s3, s4, s5, s6, s7, s8, s9, s10, s11⟩
             go_simp
             with_reducible rfl
            rotate_left
            ·simp only [Act.put, List.setIfInBounds_toArray, List.set_cons_zero, List.set_cons_succ, i64_w, i32_w]
             rfl
            refine pure_ (i := 6) (N := some 44) (v := ?_) (a' := ?_) #[true, true, true, true, true, true, true, false, false, false] rfl rfl (any_of HT_.out (by kernel_rfl)) (fun _ _ _ h => h) (Or.inl ⟨by rfl, ?_⟩) ?_ ?_
            rotate_left
            ·intro w'
             go_simp
             with_reducible rfl
            rotate_left
            ·simp only [Act.put, List.setIfInBounds_toArray, List.set_cons_zero, List.set_cons_succ, i64_w, i32_w]
             rfl
            refine last_ (i := 7) (N := some 45) #[true, true, true, true, true, true, true, true, false, false] rfl rfl (one_of HT_.out (by kernel_rfl)) (by decide) (fun K hK => ?_)
            refine value_ (w1 := ?_) (v := ?_) (by rfl) rfl ?_ ?_
            rotate_left 2
            ·go_simp
             constructor
             ·rfl
             ·rfl
            refine hK.out _ _ ?_
            clear hK K
            refine norm_ (a' := ?_) ?_ ?_
            rotate_left
            ·show Act.put _ (some 45) _ = _
             simp only [Act.put, List.setIfInBounds_toArray, List.set_cons_zero, List.set_cons_succ, i64_w, i32_w]
             rfl
            refine last_ (i := 8) (N := some 46) #[true, true, true, true, true, true, true, true, true, false] rfl rfl (one_of HT_.out (by kernel_rfl)) (by decide) (fun K hK => ?_)
            refine Kd.R_append_step k49 (w0 := w) w.heap.size (by rfl) (.tmp 38) (.tmp 45) 44 49 (.agg #[(.bool false), (.int .i64 0), (.string ⟨#[]⟩), (.int .i64 0), (.int .i64 0), (.int .i64 0), (.bool false), (.int .i64 0), (.string ⟨#[]⟩), (.bool false), (.int .i64 0), (.string ⟨#[]⟩)]) 120 rfl Try.underlying44 info49 rfl (by decide) (by omega) u8 x8_1 (⟨(⟨(rd_T37 (rd_L7 l0 x15_1) a1).f0, (rd_T37 (rd_L7 l0 x15_1) a1).f1, (rd_T37 (rd_L7 l0 x15_1) a1).f2⟩ : S37), (⟨t184, t185, t186, (⟨t187, t188, t189⟩ : S37), (⟨t190, t191, t192⟩ : S37)⟩ : S47)⟩ : S49) [.bool ((rd_T37 (rd_L7 l0 x15_1) a1).f0), .int .i64 ((rd_T37 (rd_L7 l0 x15_1) a1).f1), .string ((rd_T37 (rd_L7 l0 x15_1) a1).f2), .int .i64 t184, .int .i64 t185, .int .i64 t186, .bool t187, .int .i64 t188, .string t189, .bool t190, .int .i64 t191, .string t192] (fun k_ => (w.heap.size ≤ k_)) (fun _ => False) rfl rfl ?aP (fun _ hk => hk.elim) ?aF ?aO ?aB ?aS ?aL ?_
            (case aP => exact k49_mkM _ _ _ (⟨(⟨(rd_T37 (rd_L7 l0 x15_1) a1).f0, (rd_T37 (rd_L7 l0 x15_1) a1).f1, (rd_T37 (rd_L7 l0 x15_1) a1).f2⟩ : S37), (⟨t184, t185, t186, (⟨t187, t188, t189⟩ : S37), (⟨t190, t191, t192⟩ : S37)⟩ : S47)⟩ : S49))
            (case aB => exact (by with_reducible repeat first | exact HB.out | apply below_alloc | apply pw_below_drewN | apply below_drew1 | refine below_set ?_ GE194.out))
            (case aF => exact (fun k_ hk => (Nat.le_trans (below_size (by with_reducible repeat first | exact HB.out | apply below_alloc | apply pw_below_drewN | apply below_drew1 | refine below_set ?_ GE194.out)) hk)))
            (case aO => exact (by (with_reducible repeat (first | apply Kd.R_alloc | apply Kd.R_drewN | apply Kd.R_drew)); exact HO_8.out))
            (case aS => exact (below_size (by with_reducible repeat first | exact HB.out | apply below_alloc | apply pw_below_drewN | apply below_drew1 | refine below_set ?_ GE194.out)))
            (case aL => have := LMc25.out; omega)
            intro v197 w34 ho hb hg hat
            rw [← Ny196.out] at ho
            have n0_ := Aside0.mk (Kd.V_afterv (ok := (fun k_ => (P0_ k_ ∨ w.heap.size ≤ k_) ∧ some k_ ≠ (.slice Ao28 y181.length co28 : Value).ownBlock ∧ k_ ≠ gb194)) (by (with_reducible repeat (first | apply Kd.V_alloc | apply Kd.V_drewN | apply Kd.V_drew)); exact Kd.V_mono HO_13.out (fun _ hk => ⟨⟨hk.1, ⟨hk.2.2.1, hk.2.2.2⟩⟩, hk.2.1⟩)) hg hat)
            have n1_ := Aside0.mk (Kd.V_afterv (ok := (fun k_ => (P0_ k_ ∨ w.heap.size ≤ k_) ∧ some k_ ≠ (.slice Ao28 y181.length co28 : Value).ownBlock ∧ k_ ≠ gb194)) (by (with_reducible repeat (first | apply Kd.V_alloc | apply Kd.V_drewN | apply Kd.V_drew)); exact Kd.V_mono HL180_0.out (fun _ hk => ⟨⟨hk.1, ⟨hk.2.2.1, hk.2.2.2⟩⟩, hk.2.1⟩)) hg hat)
            have n2_ := Aside0.mk (Kd.N_afterv (ok := (fun k_ => (P0_ k_ ∨ w.heap.size ≤ k_) ∧ k_ ≠ gb194)) (by (with_reducible repeat (first | apply Kd.N_alloc | apply Kd.N_drewN | apply Kd.N_drew)); exact Kd.N_mono HO183.out (fun _ hk => ⟨⟨hk.1, hk.2.2⟩, hk.2.1⟩)) hg hat)
            have n3_ := Aside0.mk (blk_grown (g := gb194) (o := .cells #[.int .i64 t184, .int .i64 t185, .int .i64 t186, .bool t187, .int .i64 t188, .string t189, .bool t190, .int .i64 t191, .string t192] 47 (0, 0)) (by (with_reducible repeat (first | refine blk_drewN ?_ _ | refine blk_drew ?_ | refine blk_alloc ?_ _)); exact BK194.out) hg (Kd.R_ne HO_8.out BK194.out (by decide)))
            have n4_ := Aside0.mk (hb)
            have n5_ := Aside0.mk (ho)
            clear HO_13
            clear HL180_0
            clear HO183
            clear BK194
            clear HB
            clear HO_8
            have HO_13 := n0_
            have HL180_0 := n1_
            have HO183 := n2_
            have BK194 := n3_
            have HB := n4_
            have HO198 := n5_
            clear n0_ n1_ n2_ n3_ n4_ n5_
            clear ho hb hg hat
            refine hK.out _ _ ?_
            clear hK K
            refine norm_ (a' := ?_) ?_ ?_
            rotate_left
            ·show Act.put _ (some 46) _ = _
             simp only [Act.put, List.setIfInBounds_toArray, List.set_cons_zero, List.set_cons_succ, i64_w, i32_w]
             rfl
            refine pure_ (i := 9) (N := some 8) (v := ?_) (a' := ?_) #[true, true, true, true, true, true, true, true, true, true] rfl rfl (any_of HT_.out (by kernel_rfl)) (fun _ _ _ h => h) (Or.inl ⟨by rfl, ?_⟩) ?_ ?_
            rotate_left
            ·intro w'
             go_simp
             with_reducible rfl
            rotate_left
            ·simp only [Act.put, List.setIfInBounds_toArray, List.set_cons_zero, List.set_cons_succ, i64_w, i32_w]
             rfl
            refine done_ (done_of HT_.out (by kernel_rfl)) ?_
            try go_wp2
            go_roundg k1
            case measure => have := HK1.out; omega
            case rel => exact ⟨(y196), (wrap64 (x15_1 + 1)), (by first | rfl | (simp; done) | (simp [*]; done)), H', ⟨by have := HK1.out; omega⟩, ⟨by (with_reducible repeat (first | apply Kd.R_alloc | apply Kd.R_drewN | apply Kd.R_drew)); exact HO198.out⟩, ⟨by (with_reducible repeat (first | apply Kd.V_alloc | apply Kd.V_drewN | apply Kd.V_drew)); exact Kd.V_mono HO_13.out (fun _ hk => ⟨hk.1.1, hk.2⟩)⟩, ⟨by repeat (first | (with_reducible first | exact HB.out | apply below_alloc | apply pw_below_drewN | apply below_drew1 | refine below_set ?_ GE194.out) | exact HB.out)⟩⟩
           ·rw [if_neg c25] at H
            exact absurd H (by simp)
          ·rw [if_neg c24] at H
           exact absurd H (by simp)
         ·rw [if_neg c23] at H
          exact absurd H (by simp)
      ·rw [if_neg c8] at H
       have c8b0 : (t193 == 0) = false := beq_eq_false_iff_ne.mpr c8
       have c8b1 : (t193 != 0) = true := bne_iff_ne.mpr c8
       simp only [Option.some.injEq, Prod.mk.injEq] at H
       obtain ⟨rfl, rfl⟩ := H
       have p180 : 0 ≤ (x15_1 : Int) := of_decide_eq_true (by with_reducible assumption)
       have q180 : x15_1 < (l0.length : Int) := of_decide_eq_true (by with_reducible assumption)
       obtain ⟨ad180, A180_0, c180_0, e180, hx180_0, hl180_0, hi180_0⟩ := at_L7 (Kd.V_reads' HO_13.out).2.2 x15_1 p180 q180
       cases e180
       obtain ⟨ce180, hce180, hMe180, hcc180⟩ := Kd.V_get HO_13.out [] x15_1 p180 (by first | exact q180 | exact of_decide_eq_true (by with_reducible assumption) | (have e_ := (Kd.V_reads' HO_13.out).1; omega))
       obtain ⟨ua180_0, uc180_0, rfl, ul180_0, ge180_0⟩ := Kd.FK_slice_open hMe180
       have hv180_0 := hcc180 0 _ rfl
       rw [Nat.add_zero, show ((Kd.slice 37 k37)).sz = 1 from rfl, Nat.mul_one] at hv180_0
       replace hv180_0 := Option.some.inj (hv180_0.symm.trans hx180_0)
       injection hv180_0 with hva_ hvn_ hvc_
       rw [hva_] at ge180_0
       rw [hvc_] at ul180_0
       have HL180_0 := Aside0.mk (show Kd.V k37 37 _ w.heap.size _ _ (rd_L7 l0 x15_1) from Kd.V_mk ul180_0 ge180_0)
       clear hva_ hvn_ hvc_ ge180_0 ul180_0
       clear hcc180 hce180
       have HR180_0 := Aside0.mk hi180_0
       have HC180_0 := Aside0.mk hl180_0
       clear hi180_0 hl180_0
       replace p180 := eq_true p180
       replace q180 := eq_true q180
       go_wp2_with (first | ((with_reducible refine gate_dst (N := 21) rfl ?_); (try (refine gate_guard (by rfl) ?_; dsimp only)); refine Kd.N_lit (Kd.slice 37 k37) _ 39 ?hg (N' := 21) ?hd (xs := ([rd_L7 l0 x15_1] : List (List (S37)))) (inner := [.slice A180_0 (rd_L7 l0 x15_1).length c180_0]) (ok := (fun k_ => (P0_ k_ ∨ w.heap.size ≤ k_) ∧ some k_ ≠ (u8 : Value).ownBlock)) (okp := (fun k_ => (P0_ k_ ∨ w.heap.size ≤ k_) ∧ some k_ ≠ (u8 : Value).ownBlock)) ?hr ?hp (fun _ hk => hk) ((show ∀ k_, wr.heap.size ≤ k_ → (fun k_ => (P0_ k_ ∨ w.heap.size ≤ k_) ∧ some k_ ≠ (u8 : Value).ownBlock) k_ from fun k_ hk => ⟨(.inr (Nat.le_trans (below_size (by with_reducible repeat first | exact HB.out | apply below_alloc | apply pw_below_drewN | apply below_drew1)) hk)), Kd.fresh' (Kd.R_lt (by (with_reducible repeat (first | apply Kd.R_alloc | apply Kd.R_drewN | apply Kd.R_drew)); exact HO_8.out)) k_ hk⟩) _ (Nat.le_refl _)) (Below.refl _ _) (Nat.le_refl _) (by simp) ?_; (case hd => rfl); (case hg => rfl); (case hr => first | (go_simp; done) | (go_simp; rfl)); (case hp => exact (Reps.one (show Kd.FK (Kd.slice 37 k37) _ _ (rd_L7 l0 x15_1) [.slice A180_0 (rd_L7 l0 x15_1).length c180_0] from (Kd.FK_slice_mk (Kd.V_reads' (Kd.V_mono (ok' := (fun k_ => (P0_ k_ ∨ w.heap.size ≤ k_) ∧ some k_ ≠ (u8 : Value).ownBlock)) (HL180_0.out) (fun k_ hk => ⟨hk.1, hk.2⟩))).2.1 (Kd.V_F (Kd.V_mono (ok' := (fun k_ => (P0_ k_ ∨ w.heap.size ≤ k_) ∧ some k_ ≠ (u8 : Value).ownBlock)) (HL180_0.out) (fun k_ hk => ⟨hk.1, hk.2⟩))))) (Reps.none _ _))); intro v182 w35 ho36 hb hg_ hnew_; clear hg_ hnew_; (first | rw [← Ny181.out] at ho36 | (simp only [Int.reduceToNat] at ho36; rw [← Ny181.out] at ho36)); have n0_ := Aside0.mk (Kd.R_below (by (with_reducible repeat (first | apply Kd.R_alloc | apply Kd.R_drewN | apply Kd.R_drew)); exact HO_8.out) hb); have n1_ := Aside0.mk (Kd.V_elder' (by (with_reducible repeat (first | apply Kd.V_alloc | apply Kd.V_drewN | apply Kd.V_drew)); exact HO_13.out) (Kd.N_base ho36) hb); have n2_ := Aside0.mk (Kd.V_elder' (by (with_reducible repeat (first | apply Kd.V_alloc | apply Kd.V_drewN | apply Kd.V_drew)); exact HL180_0.out) (Kd.N_base ho36) hb); have n3_ := Aside0.mk (Kd.N_lower ho36 (below_size (by with_reducible repeat first | exact HB.out | apply below_alloc | apply pw_below_drewN | apply below_drew1))); have n4_ := Aside0.mk (Kd.C_below (by repeat (first | (with_reducible exact HR180_0.out) | (with_reducible refine Kd.C_alloc ?_ _) | (with_reducible refine Kd.C_drewN ?_ _) | (with_reducible refine Kd.C_drew ?_) | exact HR180_0.out)) hb); have n5_ := Aside0.mk (below_step (by with_reducible repeat first | exact HB.out | apply below_alloc | apply pw_below_drewN | apply below_drew1) hb); clear HO_8; clear HO_13; clear HL180_0; clear HR180_0; clear HB; have HO_8 := n0_; have HO_13 := n1_; have HL180_0 := n2_; have HO183 := n3_; have HR180_0 := n4_; have HB := n5_; clear n0_ n1_ n2_ n3_ n4_ n5_; clear hb ho36; obtain ⟨Ao37, co37, eo37⟩ := Kd.N_slice HO183.out; subst eo37) | ((with_reducible refine gate_callee (f := 32) rfl ?_); refine goesL_ (some 23) rfl rfl Try.func32 (by kernel_rfl) rfl #[.slice Ao37 y181.length co37, .int .i64 a2] rfl (by (try simp only [List.map_toArray, List.map_cons, List.map_nil]); first | done | rfl | (simp only [List.length_drop, List.length_take]; rfl)) ?_; (with_reducible refine (sums_Fold_c.calls _ _ y181 a2 t184 t185 t186 t187 t188 t189 t190 t191 t192 t193 _ ?side1 ?side2 A7.out).mono ?_); (case side1 => repeat (first | exact (Kd.N_reads' HO183.out).2.2 | (with_reducible refine Kd.C_alloc ?_ _) | (with_reducible refine Kd.C_drewN ?_ _) | (with_reducible refine Kd.C_drew ?_))); (case side2 => exact (Kd.N_reads' HO183.out).2.1); rintro e w38 ⟨rfl, hb⟩; refine ⟨_, rfl, ?_⟩; have n0_ := Aside0.mk (Kd.R_below (by (with_reducible repeat (first | apply Kd.R_alloc | apply Kd.R_drewN | apply Kd.R_drew)); exact HO_8.out) hb); have n1_ := Aside0.mk (Kd.V_below (by (with_reducible repeat (first | apply Kd.V_alloc | apply Kd.V_drewN | apply Kd.V_drew)); exact HO_13.out) hb); have n2_ := Aside0.mk (Kd.V_below (by (with_reducible repeat (first | apply Kd.V_alloc | apply Kd.V_drewN | apply Kd.V_drew)); exact HL180_0.out) hb); have n3_ := Aside0.mk (Kd.N_below (by (with_reducible repeat (first | apply Kd.N_alloc | apply Kd.N_drewN | apply Kd.N_drew)); exact HO183.out) hb); have n4_ := Aside0.mk (Kd.C_below (by repeat (first | (with_reducible exact HR180_0.out) | (with_reducible refine Kd.C_alloc ?_ _) | (with_reducible refine Kd.C_drewN ?_ _) | (with_reducible refine Kd.C_drew ?_) | exact HR180_0.out)) hb); have n5_ := Aside0.mk (below_step (by with_reducible repeat first | exact HB.out | apply below_alloc | apply pw_below_drewN | apply below_drew1) hb); clear HO_8; clear HO_13; clear HL180_0; clear HO183; clear HR180_0; clear HB; have HO_8 := n0_; have HO_13 := n1_; have HL180_0 := n2_; have HO183 := n3_; have HR180_0 := n4_; have HB := n5_; clear n0_ n1_ n2_ n3_ n4_ n5_; (try clear hb); (try clear hb2); (try clear hk); (try clear hi)) | ((with_reducible refine gate_dst (N := 11) rfl ?_); (try (refine gate_guard (by rfl) ?_; dsimp only)); refine box_event ?hg (N := 11) ?hd (cs := #[.int .i64 0, .int .i64 0, .int .i64 0, .bool false, .int .i64 0, .string (⟨#[]⟩ : ByteArray), .bool false, .int .i64 0, .string (⟨#[]⟩ : ByteArray)]) (t := 47) ?hr ?_; (case hd => rfl); (case hg => rfl); (case hr => first | (go_simp; done) | (go_simp; rfl)); intro gb194 hg w39 hbox hb; have n0_ := Aside0.mk (Kd.R_below (by (with_reducible repeat (first | apply Kd.R_alloc | apply Kd.R_drewN | apply Kd.R_drew)); exact HO_8.out) hb); have n1_ := Aside0.mk (Kd.V_below (Kd.V_elderB (by (with_reducible repeat (first | apply Kd.V_alloc | apply Kd.V_drewN | apply Kd.V_drew)); exact HO_13.out) gb194 (Nat.le_of_eq hg.symm)) hb); have n2_ := Aside0.mk (Kd.V_below (Kd.V_elderB (by (with_reducible repeat (first | apply Kd.V_alloc | apply Kd.V_drewN | apply Kd.V_drew)); exact HL180_0.out) gb194 (Nat.le_of_eq hg.symm)) hb); have n3_ := Aside0.mk (Kd.N_below (Kd.N_elderB (by (with_reducible repeat (first | apply Kd.N_alloc | apply Kd.N_drewN | apply Kd.N_drew)); exact HO183.out) gb194 (Nat.le_of_eq hg.symm)) hb); have n4_ := Aside0.mk (Kd.C_below (by repeat (first | (with_reducible exact HR180_0.out) | (with_reducible refine Kd.C_alloc ?_ _) | (with_reducible refine Kd.C_drewN ?_ _) | (with_reducible refine Kd.C_drew ?_) | exact HR180_0.out)) hb); have n5_ := Aside0.mk (below_step (by with_reducible repeat first | exact HB.out | apply below_alloc | apply pw_below_drewN | apply below_drew1) hb); have n6_ := Aside0.mk (hbox); have n7_ := Aside0.mk ((by rw [hg]; exact (below_size (by with_reducible repeat first | exact HB.out | apply below_alloc | apply pw_below_drewN | apply below_drew1)) : w.heap.size ≤ gb194)); have n8_ := Aside0.mk ((by rw [hg]; exact (below_size (by with_reducible repeat first | exact HB.out | apply below_alloc | apply pw_below_drewN | apply below_drew1)) : w.heap.size ≤ gb194)); clear HO_8; clear HO_13; clear HL180_0; clear HO183; clear HR180_0; clear HB; have HO_8 := n0_; have HO_13 := n1_; have HL180_0 := n2_; have HO183 := n3_; have HR180_0 := n4_; have HB := n5_; have BK194 := n6_; have GW194 := n7_; have GE194 := n8_; clear n0_ n1_ n2_ n3_ n4_ n5_ n6_ n7_ n8_; clear hb hbox hg; obtain ⟨hcz40_0, hcz40_1, hcz40_2, hcz40_3, hcz40_4, hcz40_5, hcz40_6, hcz40_7, hcz40_8⟩ := bc9 BK194.out; obtain ⟨hfz40_0, hfz40_1, hfz40_2, hfz40_3, hfz40_4, hfz40_5, hfz40_6, hfz40_7, hfz40_8⟩ := bf9 BK194.out))
       go_ret2
       exact ⟨_, by first | rfl | (simp [errW_none, errW_some] <;> rfl) | (simp [*, errW_none, errW_some] <;> rfl), by first | exact Kd.R_nil _ _ _ _ _ | exact Kd.N_nil _ _ _ _ _ | exact Kd.V_nil _ _ _ _ _ | exact Kd.Q_nil _ _ _ _ _ | exact Kd.S_nil _ _ _ _ _, by repeat (first | (with_reducible first | exact HB.out | apply below_alloc | apply pw_below_drewN | apply below_drew1 | refine below_set ?_ GE194.out) | exact HB.out)⟩
     ·rw [if_neg c6] at H
      exact absurd H (by simp)
    ·rw [if_neg c5] at H
     exact absurd H (by simp)
   ·rw [if_neg c4] at H
    have c4b0 : decide (x15_1 < (l0.length : Int)) = false := decide_eq_false c4
    clear c4
    replace H := Option.bind_eq_some_iff.mp H
    obtain ⟨t199, A410, H⟩ := H
    replace H : ((groups_gather.f k1 t199).bind fun t200 => (some (t200, 0))) = some (r1, r2) := H
    have A41 := Aside0.mk A410
    clear A410
    replace H := Option.bind_eq_some_iff.mp H
    obtain ⟨t200, A420, H⟩ := H
    replace H : (some (t200, 0)) = some (r1, r2) := H
    have A42 := Aside0.mk A420
    clear A420
    simp only [Option.some.injEq, Prod.mk.injEq] at H
    obtain ⟨rfl, rfl⟩ := H
    obtain ⟨Ao43, co43, eo43⟩ := Kd.R_slice HO_8.out
    subst eo43
    go_wp2_with (first | (go_at_call 52; (with_reducible refine (sortKey.calls (fun k_ => some k_ = (.slice Ao43 x8_1.length co43 : Value).ownBlock) (.slice Ao43 x8_1.length co43) x8_1  t199 w _ ?side1 ?side2 A41.out).mono ?_); (case side1 => repeat (first | (with_reducible first | exact HB.out | apply below_alloc | apply pw_below_drewN | apply below_drew1) | exact HB.out)); (case side2 => exact Kd.R_tight rfl HO_8.out); rintro e w44 ⟨rfl, hy0, hb, hkp⟩; have n0_ := Aside0.mk (Kd.R_reok rfl hy0 (fun k_ e_ => HO_8.out.1 k_ e_)); have n1_ := Aside0.mk (Kd.V_mono (ok' := fun k_ => (P0_ k_ ∨ w.heap.size ≤ k_) ∧ some k_ ≠ (.slice Ao43 x8_1.length co43 : Value).ownBlock) (Kd.V_keptB (HO_13.out) hkp (fun k_ hk_ hs_ => (hk_.2) hs_)) (fun k_ hk_ => ⟨hk_.1.1, hk_.1.2⟩)); have n2_ := Aside0.mk (hb); clear HO_8; clear HO_13; clear HB; have HO_8 := n0_; have HO_13 := n1_; have HB := n2_; clear n0_ n1_ n2_; (try clear hb); (try clear hkp); (try clear hy0)) | ((with_reducible refine gate_callee (f := 57) rfl ?_); refine goesL_ (some 51) rfl rfl Try.func57 (by kernel_rfl) rfl #[.slice Ao43 t199.length co43] rfl (by (try simp only [List.map_toArray, List.map_cons, List.map_nil]); first | done | (rw [show t199.length = x8_1.length from (Kd.R_reads' HO_8.out).1.symm] <;> rfl) | rfl | (simp only [List.length_drop, List.length_take]; rfl)) ?_; (with_reducible refine (groups_gather.calls k1 _ _ t199 t200 _ ?side1 ?side2 A42.out).mono ?_); (case side1 => repeat (first | exact (Kd.R_reads' HO_8.out).2.2 | (with_reducible refine Kd.C_alloc ?_ _) | (with_reducible refine Kd.C_drewN ?_ _) | (with_reducible refine Kd.C_drew ?_))); (case side2 => rw [show t199.length = x8_1.length from (Kd.R_reads' HO_8.out).1.symm]; exact (Kd.R_reads' HO_8.out).2.1); rintro e w45 ⟨v201, rfl, ho0, hb⟩; refine ⟨_, rfl, ?_⟩; have n0_ := Aside0.mk (Kd.R_elder' (by (with_reducible repeat (first | apply Kd.R_alloc | apply Kd.R_drewN | apply Kd.R_drew)); exact HO_8.out) (Kd.R_base ho0) hb); have n1_ := Aside0.mk (Kd.V_elder' (by (with_reducible repeat (first | apply Kd.V_alloc | apply Kd.V_drewN | apply Kd.V_drew)); exact HO_13.out) (Kd.R_base ho0) hb); have n2_ := Aside0.mk (Kd.R_lower (Kd.R_new' (Kd.R_newM (M := fun k_ => (w.heap.size ≤ k_)) ho0 (below_size (by with_reducible repeat first | exact HB.out | apply below_alloc | apply pw_below_drewN | apply below_drew1)) (fun k_ h_ => h_)) (Kd.R_lt (by (with_reducible repeat (first | apply Kd.R_alloc | apply Kd.R_drewN | apply Kd.R_drew)); exact HO_8.out))) (below_size (by with_reducible repeat first | exact HB.out | apply below_alloc | apply pw_below_drewN | apply below_drew1))); have n3_ := Aside0.mk (below_step (by with_reducible repeat first | exact HB.out | apply below_alloc | apply pw_below_drewN | apply below_drew1) hb); clear HO_8; clear HO_13; clear HB; have HO_8 := n0_; have HO_13 := n1_; have HO202 := n2_; have HB := n3_; clear n0_ n1_ n2_ n3_; (try clear hb); (try clear hb2); (try clear hk); (try clear hi); (try clear ho0)))
    go_ret2
    exact ⟨_, by first | rfl | (simp [errW_none, errW_some] <;> rfl) | (simp [*, errW_none, errW_some] <;> rfl), by (with_reducible repeat (first | apply Kd.R_alloc | apply Kd.R_drewN | apply Kd.R_drew)); exact Kd.R_mono HO202.out (fun _ hk => hk.1.1), by repeat (first | (with_reducible first | exact HB.out | apply below_alloc | apply pw_below_drewN | apply below_drew1) | exact HB.out)⟩

end Go.Proofs.Ythlelhndmnkmjaa.Pr
