-- printed by xprint.py
import Derived.Test.YthlelhndmnkmjaaPr0
namespace Go.Proofs.Ythlelhndmnkmjaa.Pr
open Go.RowKit Go.Proofs.YthlelhndmnkmjaaW PrintWords PrintLast PrintMore
set_option linter.unusedVariables false
set_option linter.unusedSimpArgs false

/-! ### tithebarnref14_Live: function 21 -/
def tithebarnref14_Live.l0 : Nat → List (S41) → List (S41) → Int → Option ((List (S41)))
 | 0, _, _, _ => none
 | k + 1, x0, x3, x4 => if x4 < (x0.length : Int) then (if 0 ≤ x4 then (if ((rd_T41 x0 x4).f0 = true) then (tithebarnref14_Live.l0 k x0 x3 (wrap64 (x4 + 1))) else (if x3.length < 4398046511104 then (tithebarnref14_Live.l0 k x0 (x3 ++ [(⟨(rd_T41 x0 x4).f0, (rd_T41 x0 x4).f1⟩ : S41)]) (wrap64 (x4 + 1))) else (none))) else (none)) else (some x3)
def tithebarnref14_Live.f (k : Nat) (l0 : List (S41)) : Option ((List (S41))) := tithebarnref14_Live.l0 k l0 ([] : List (S41)) 0
theorem tithebarnref14_Live.mono_l : ∀ k, (∀ y0 y1 y2, LeO (tithebarnref14_Live.l0 k y0 y1 y2) (tithebarnref14_Live.l0 (k + 1) y0 y1 y2))
 | 0 => fun _ _ _ r h => by simp [tithebarnref14_Live.l0] at h
 | k + 1 => by
  have ih0 := tithebarnref14_Live.mono_l k
  ·intro y0 y1 y2
   unfold tithebarnref14_Live.l0
   repeat' first
   | (with_reducible exact ih0 _ _ _)
   | (with_reducible exact LeO.refl _)
   | (with_reducible exact LeO.none _)
   | (with_reducible refine LeO.ite ?_ ?_)
   | (with_reducible refine LeO.bind ?_ (fun _ => ?_))
theorem tithebarnref14_Live.mono : ∀ a0 k, LeO (tithebarnref14_Live.f k a0) (tithebarnref14_Live.f (k + 1) a0) := by
 intro a0 k
 have ih0 := tithebarnref14_Live.mono_l k
 unfold tithebarnref14_Live.f
 repeat' first
   | (with_reducible exact ih0 _ _ _)
   | (with_reducible exact LeO.refl _)
   | (with_reducible exact LeO.none _)
   | (with_reducible refine LeO.ite ?_ ?_)
   | (with_reducible refine LeO.bind ?_ (fun _ => ?_))
set_option maxHeartbeats 8000000 in
set_option maxRecDepth 100000 in
theorem tithebarnref14_Live.calls (k : Nat) (P0_ : Nat → Prop) (A0 : Option Addr) (c0 : Nat) (l0 : List (S41)) (r : List (S41)) (w : World) (hs0 : Kd.V k41 41 w w.heap.size (fun k_ => P0_ k_) (.slice A0 l0.length c0) l0) (h : tithebarnref14_Live.f k l0 = some r) :
  Calls Try.prog 21 #[.slice A0 l0.length c0] w fun e w' => ∃ v0_ : Value, e = .returned (v0_) ∧ Kd.N k41 41 w' w.heap.size (fun k_ => (P0_ k_ ∨ w.heap.size ≤ k_)) v0_ r ∧ Below w.heap.size w w' := by
 have hu41 := Try.underlying41
 have HO0 := Aside0.mk (show Kd.V k41 41 w w.heap.size (fun k_ => (P0_ k_ ∨ w.heap.size ≤ k_)) (.slice A0 l0.length c0) l0 from Kd.V_mono hs0 (fun k_ hk => .inl hk))
 have HB := Aside0.mk (Below.refl w.heap.size w)
 have H : (tithebarnref14_Live.l0 k l0 ([] : List (S41)) 0) = some r := h
 clear h
 have H' := Aside0.mk H
 clear H
 go_enter Try.func21, Try.ntmps21
 go_wp2
 go_loopg [3, 4] k (fun kq v3 v4 w' => ∃ (x3_1 : List (S41)) (x4_1 : Int), v4 = .int .i64 x4_1 ∧ Aside0 (tithebarnref14_Live.l0 kq l0 x3_1 x4_1 = some r) ∧ Aside0 (kq ≤ k) ∧ Aside0 (Kd.V k41 41 w' w.heap.size (fun k_ => (P0_ k_ ∨ w.heap.size ≤ k_) ∧ some k_ ≠ (v3 : Value).ownBlock) (.slice A0 l0.length c0) l0) ∧ Aside0 (Kd.N k41 41 w' w.heap.size (fun k_ => (P0_ k_ ∨ w.heap.size ≤ k_)) v3 x3_1) ∧ Aside0 (Below w.heap.size w w'))
 case atStart => exact ⟨(([] : List (S41))), (0), (by first | rfl | (simp; done) | (simp [*]; done)), H', ⟨Nat.le_refl _⟩, ⟨by (with_reducible repeat (first | apply Kd.V_alloc | apply Kd.V_drewN | apply Kd.V_drew)); exact Kd.V_mono HO0.out (fun _ hk => ⟨hk, (by simp [Value.ownBlock])⟩)⟩, ⟨by first | exact Kd.S_nil _ _ _ _ _ | exact Kd.N_nil _ _ _ _ _ | exact Kd.V_nil _ _ _ _ _ | exact Kd.Q_nil _ _ _ _ _ | exact Kd.R_nil _ _ _ _ _⟩, ⟨by repeat (first | (with_reducible first | exact HB.out | apply below_alloc | apply pw_below_drewN | apply below_drew1) | exact HB.out)⟩⟩
 case round =>
  clear H'
  obtain ⟨x3_1, x4_1, rfl, HA, HK1, HO_0, HO_3, HB⟩ := hrel
  cases gk with
  | zero => exact absurd HA.out (by simp [tithebarnref14_Live.l0])
  | succ k1 =>
   have H := HA.out
   clear HA
   simp only [tithebarnref14_Live.l0] at H
   by_cases c2 : x4_1 < (l0.length : Int)
   ·rw [if_pos c2] at H
    have c2b0 : decide (x4_1 < (l0.length : Int)) = true := decide_eq_true c2
    clear c2
    by_cases c3 : 0 ≤ x4_1
    ·rw [if_pos c3] at H
     have c3b0 : decide (0 ≤ x4_1) = true := decide_eq_true c3
     clear c3
     obtain ⟨bq4, hbq4⟩ : ∃ b_ : Bool, b_ = ((rd_T41 l0 x4_1).f0) := ⟨_, rfl⟩
     replace H : (if (bq4 = true) then (tithebarnref14_Live.l0 k1 l0 x3_1 (wrap64 (x4_1 + 1))) else (if x3_1.length < 4398046511104 then (tithebarnref14_Live.l0 k1 l0 (x3_1 ++ [(⟨bq4, (rd_T41 l0 x4_1).f1⟩ : S41)]) (wrap64 (x4_1 + 1))) else (none))) = some r := by rw [← hbq4] at H; exact H
     have Nbq4 := Aside0.mk hbq4
     clear hbq4
     by_cases c5 : (bq4 = true)
     ·subst c5
      have H1 : (tithebarnref14_Live.l0 k1 l0 x3_1 (wrap64 (x4_1 + 1))) = some r := by rw [if_pos rfl] at H; exact H
      clear H
      have H := H1
      clear H1
      have H' := Aside0.mk H
      clear H
      have p192 : 0 ≤ (x4_1 : Int) := of_decide_eq_true (by with_reducible assumption)
      have q192 : x4_1 < (l0.length : Int) := of_decide_eq_true (by with_reducible assumption)
      obtain ⟨ad192, A192_1, c192_1, e192, hx192_0, hx192_1, hl192_1, hi192_1⟩ := at_T41 (Kd.V_reads' HO_0.out).2.2 x4_1 p192 q192
      (try rw [← Nbq4.out] at hx192_0)
      cases e192
      obtain ⟨ce192, hce192, hMe192, hcc192⟩ := Kd.V_get HO_0.out z41 x4_1 p192 (by first | exact q192 | exact of_decide_eq_true (by with_reducible assumption) | (have e_ := (Kd.V_reads' HO_0.out).1; omega))
      obtain ⟨ua192_1, uc192_1, rfl, ul192_1, ge192_1⟩ := k41_openF hMe192
      have hv192_1 := hcc192 1 _ rfl
      rw [add_field _ _ 1 (by omega)] at hv192_1
      replace hv192_1 := Option.some.inj (hv192_1.symm.trans hx192_1)
      injection hv192_1 with hva_ hvn_ hvc_
      rw [hva_] at ge192_1
      rw [hvc_] at ul192_1
      have HL192_1 := Aside0.mk (show Kd.V k37 37 _ w.heap.size _ _ ((rd_T41 l0 x4_1).f1) from Kd.V_mk ul192_1 ge192_1)
      clear hva_ hvn_ hvc_ ge192_1 ul192_1
      clear hcc192 hce192
      have HR192_1 := Aside0.mk hi192_1
      have HC192_1 := Aside0.mk hl192_1
      clear hi192_1 hl192_1
      replace p192 := eq_true p192
      replace q192 := eq_true q192
      go_wp2
      go_roundg k1
      case measure => have := HK1.out; omega
      case rel => exact ⟨(x3_1), (wrap64 (x4_1 + 1)), (by first | rfl | (simp; done) | (simp [*]; done)), H', ⟨by have := HK1.out; omega⟩, ⟨by (with_reducible repeat (first | apply Kd.V_alloc | apply Kd.V_drewN | apply Kd.V_drew)); exact HO_0.out⟩, ⟨by (with_reducible repeat (first | apply Kd.N_alloc | apply Kd.N_drewN | apply Kd.N_drew)); exact HO_3.out⟩, ⟨by repeat (first | (with_reducible first | exact HB.out | apply below_alloc | apply pw_below_drewN | apply below_drew1) | exact HB.out)⟩⟩
     ·replace c5 := Bool.eq_false_iff.mpr c5
      subst c5
      have H1 : (if x3_1.length < 4398046511104 then (tithebarnref14_Live.l0 k1 l0 (x3_1 ++ [(⟨false, (rd_T41 l0 x4_1).f1⟩ : S41)]) (wrap64 (x4_1 + 1))) else (none)) = some r := by rw [if_neg (show ¬ (false = true) by decide)] at H; exact H
      clear H
      have H := H1
      clear H1
      by_cases c6 : x3_1.length < 4398046511104
      ·rw [if_pos c6] at H
       have LMc6 := Aside0.mk c6
       clear c6
       obtain ⟨y194, hy194⟩ : ∃ y_ : List (S41), y_ = (x3_1 ++ [(⟨false, (rd_T41 l0 x4_1).f1⟩ : S41)]) := ⟨_, rfl⟩
       replace H : (tithebarnref14_Live.l0 k1 l0 y194 (wrap64 (x4_1 + 1))) = some r := by first | (rw [hy194]; with_reducible exact H) | (have H2_ := (Option.bind_some _ _).symm.trans H; rw [hy194]; with_reducible exact H2_) | (have H2_ := (Option.bind_some _ _).symm.trans H; with_reducible exact H2_) | with_reducible exact H | (rw [hy194]; exact H) | exact H
       have Ny194 := Aside0.mk hy194
       clear hy194
       have H' := Aside0.mk H
       clear H
       have p192 : 0 ≤ (x4_1 : Int) := of_decide_eq_true (by with_reducible assumption)
       have q192 : x4_1 < (l0.length : Int) := of_decide_eq_true (by with_reducible assumption)
       obtain ⟨ad192, A192_1, c192_1, e192, hx192_0, hx192_1, hl192_1, hi192_1⟩ := at_T41 (Kd.V_reads' HO_0.out).2.2 x4_1 p192 q192
       (try rw [← Nbq4.out] at hx192_0)
       cases e192
       obtain ⟨ce192, hce192, hMe192, hcc192⟩ := Kd.V_get HO_0.out z41 x4_1 p192 (by first | exact q192 | exact of_decide_eq_true (by with_reducible assumption) | (have e_ := (Kd.V_reads' HO_0.out).1; omega))
       obtain ⟨ua192_1, uc192_1, rfl, ul192_1, ge192_1⟩ := k41_openF hMe192
       have hv192_1 := hcc192 1 _ rfl
       rw [add_field _ _ 1 (by omega)] at hv192_1
       replace hv192_1 := Option.some.inj (hv192_1.symm.trans hx192_1)
       injection hv192_1 with hva_ hvn_ hvc_
       rw [hva_] at ge192_1
       rw [hvc_] at ul192_1
       have HL192_1 := Aside0.mk (show Kd.V k37 37 _ w.heap.size _ _ ((rd_T41 l0 x4_1).f1) from Kd.V_mk ul192_1 ge192_1)
       clear hva_ hvn_ hvc_ ge192_1 ul192_1
       clear hcc192 hce192
       have HR192_1 := Aside0.mk hi192_1
       have HC192_1 := Aside0.mk hl192_1
       clear hi192_1 hl192_1
       replace p192 := eq_true p192
       replace q192 := eq_true q192
       have p193 : 0 ≤ (x4_1 : Int) := of_decide_eq_true (by with_reducible assumption)
       have q193 : x4_1 < (l0.length : Int) := of_decide_eq_true (by with_reducible assumption)
       obtain ⟨ad193, A193_1, c193_1, e193, hx193_0, hx193_1, hl193_1, hi193_1⟩ := at_T41 (Kd.V_reads' HO_0.out).2.2 x4_1 p193 q193
       (try rw [← Nbq4.out] at hx193_0)
       obtain rfl : ad192 = ad193 := (by injection e193)
       obtain ⟨ce193, hce193, hMe193, hcc193⟩ := Kd.V_get HO_0.out z41 x4_1 p193 (by first | exact q193 | exact of_decide_eq_true (by with_reducible assumption) | (have e_ := (Kd.V_reads' HO_0.out).1; omega))
       obtain ⟨ua193_1, uc193_1, rfl, ul193_1, ge193_1⟩ := k41_openF hMe193
       have hv193_1 := hcc193 1 _ rfl
       rw [add_field _ _ 1 (by omega)] at hv193_1
       replace hv193_1 := Option.some.inj (hv193_1.symm.trans hx193_1)
       injection hv193_1 with hva_ hvn_ hvc_
       rw [hva_] at ge193_1
       rw [hvc_] at ul193_1
       have HL193_1 := Aside0.mk (show Kd.V k37 37 _ w.heap.size _ _ ((rd_T41 l0 x4_1).f1) from Kd.V_mk ul193_1 ge193_1)
       clear hva_ hvn_ hvc_ ge193_1 ul193_1
       clear hcc193 hce193
       have HR193_1 := Aside0.mk hi193_1
       have HC193_1 := Aside0.mk hl193_1
       clear hi193_1 hl193_1
       replace p193 := eq_true p193
       replace q193 := eq_true q193
       have ea_ := Option.some.inj (hx192_1.symm.trans hx193_1)
       injection ea_ with ea_ en_ ec_
       subst ea_
       subst ec_
       clear en_
       go_wp2_with (first | ((with_reducible refine gate_builtin (b := .append) (xs := #[.tmp 17, .tmp 22]) rfl ?_); at_builtin; refine Kd.N_append k41 (w0 := w) w.heap.size rfl (.tmp 17) (.tmp 22) 25 41 (.agg #[(.bool false), (.slice none 0 0)]) 32 rfl Try.underlying25 info41 rfl (by decide) (by omega) u3 x3_1 (⟨false, (rd_T41 l0 x4_1).f1⟩ : S41) [.bool false, .slice A192_1 ((rd_T41 l0 x4_1).f1).length c192_1] (fun k_ => (P0_ k_ ∨ w.heap.size ≤ k_)) (fun k_ => ((fun k_ => (P0_ k_ ∨ w.heap.size ≤ k_))) k_ ∧ some k_ ≠ (u3 : Value).ownBlock) rfl rfl ?aP (fun _ hk => hk) ?aF ?aO ?aB ?aS ?aL ?_; (case aP => exact (k41_mkF _ _ (⟨false, (rd_T41 l0 x4_1).f1⟩ : S41) (Kd.V_reads' (Kd.V_mono (ok' := (fun k_ => ((fun k_ => (P0_ k_ ∨ w.heap.size ≤ k_))) k_ ∧ some k_ ≠ (u3 : Value).ownBlock)) (HL193_1.out) (fun k_ hk => ⟨hk.1, hk.2⟩))).2.1 (Kd.V_F (Kd.V_mono (ok' := (fun k_ => ((fun k_ => (P0_ k_ ∨ w.heap.size ≤ k_))) k_ ∧ some k_ ≠ (u3 : Value).ownBlock)) (HL193_1.out) (fun k_ hk => ⟨hk.1, hk.2⟩))))); (case aB => exact (by with_reducible repeat first | exact HB.out | apply below_alloc | apply pw_below_drewN | apply below_drew1)); (case aF => exact (fun k_ hk => (.inr (Nat.le_trans (below_size (by with_reducible repeat first | exact HB.out | apply below_alloc | apply pw_below_drewN | apply below_drew1)) hk)))); (case aO => exact (by (with_reducible repeat (first | apply Kd.N_alloc | apply Kd.N_drewN | apply Kd.N_drew)); exact HO_3.out)); (case aS => exact (below_size (by with_reducible repeat first | exact HB.out | apply below_alloc | apply pw_below_drewN | apply below_drew1))); (case aL => have := LMc6.out; omega); intro v195 w7 ho hb hg hat; rw [← Ny194.out] at ho; have n0_ := Aside0.mk (Kd.V_afterv (ok := (fun k_ => (P0_ k_ ∨ w.heap.size ≤ k_))) (by (with_reducible repeat (first | apply Kd.V_alloc | apply Kd.V_drewN | apply Kd.V_drew)); exact HO_0.out) hg hat); have n1_ := Aside0.mk (Kd.V_afterv (ok := (fun k_ => (P0_ k_ ∨ w.heap.size ≤ k_))) (by (with_reducible repeat (first | apply Kd.V_alloc | apply Kd.V_drewN | apply Kd.V_drew)); exact HL192_1.out) hg hat); have n2_ := Aside0.mk (Kd.V_afterv (ok := (fun k_ => (P0_ k_ ∨ w.heap.size ≤ k_))) (by (with_reducible repeat (first | apply Kd.V_alloc | apply Kd.V_drewN | apply Kd.V_drew)); exact HL193_1.out) hg hat); have n3_ := Aside0.mk (hb); have n4_ := Aside0.mk (ho); clear HO_0; clear HL192_1; clear HL193_1; clear HB; clear HO_3; have HO_0 := n0_; have HL192_1 := n1_; have HL193_1 := n2_; have HB := n3_; have HO196 := n4_; clear n0_ n1_ n2_ n3_ n4_; clear ho hb hg hat))
       go_roundg k1
       case measure => have := HK1.out; omega
       case rel => exact ⟨(y194), (wrap64 (x4_1 + 1)), (by first | rfl | (simp; done) | (simp [*]; done)), H', ⟨by have := HK1.out; omega⟩, ⟨by (with_reducible repeat (first | apply Kd.V_alloc | apply Kd.V_drewN | apply Kd.V_drew)); exact HO_0.out⟩, ⟨by (with_reducible repeat (first | apply Kd.N_alloc | apply Kd.N_drewN | apply Kd.N_drew)); exact HO196.out⟩, ⟨by repeat (first | (with_reducible first | exact HB.out | apply below_alloc | apply pw_below_drewN | apply below_drew1) | exact HB.out)⟩⟩
      ·rw [if_neg c6] at H
       exact absurd H (by simp)
    ·rw [if_neg c3] at H
     exact absurd H (by simp)
   ·rw [if_neg c2] at H
    have c2b0 : decide (x4_1 < (l0.length : Int)) = false := decide_eq_false c2
    clear c2
    obtain rfl := Option.some.inj H
    go_wp2
    go_ret
    exact ⟨_, by first | rfl | (simp [errW_none, errW_some] <;> rfl) | (simp [*, errW_none, errW_some] <;> rfl), by (with_reducible repeat (first | apply Kd.N_alloc | apply Kd.N_drewN | apply Kd.N_drew)); exact HO_3.out, by repeat (first | (with_reducible first | exact HB.out | apply below_alloc | apply pw_below_drewN | apply below_drew1) | exact HB.out)⟩

end Go.Proofs.Ythlelhndmnkmjaa.Pr
