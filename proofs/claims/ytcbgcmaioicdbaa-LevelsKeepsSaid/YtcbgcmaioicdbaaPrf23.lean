-- printed by xprint.py
import Derived.Test.YtcbgcmaioicdbaaPr0
namespace Go.Proofs.Ytcbgcmaioicdbaa.Pr
open Go.RowKit Go.Proofs.YtcbgcmaioicdbaaW PrintWords PrintLast PrintMore
set_option linter.unusedVariables false
set_option linter.unusedSimpArgs false

/-! ### tithebarnref17_Of: function 23 -/
def tithebarnref17_Of.l0 : Nat → List (S38) → Int → List (S38) → Int → Option ((List (S38)))
 | 0, _, _, _, _ => none
 | k + 1, x0, x1, x5, x6 => if x6 < (x0.length : Int) then (if 0 ≤ x6 then (if ((rd_T38 x0 x6).f1) = x1 then (if x5.length < 1759218604441 then (tithebarnref17_Of.l0 k x0 x1 (x5 ++ [(⟨(rd_T38 x0 x6).f0, (rd_T38 x0 x6).f1, (⟨(rd_T38 x0 x6).f2.f0, (rd_T38 x0 x6).f2.f1, (rd_T38 x0 x6).f2.f2⟩ : S36), (⟨(rd_T38 x0 x6).f3.f0, (rd_T38 x0 x6).f3.f1, (rd_T38 x0 x6).f3.f2⟩ : S36)⟩ : S38)]) (wrap64 (x6 + 1))) else (none)) else (tithebarnref17_Of.l0 k x0 x1 x5 (wrap64 (x6 + 1)))) else (none)) else (some x5)
def tithebarnref17_Of.f (k : Nat) (l0 : List (S38)) (a1 : Int) : Option ((List (S38))) := tithebarnref17_Of.l0 k l0 a1 ([] : List (S38)) 0
theorem tithebarnref17_Of.mono_l : ∀ k, (∀ y0 y1 y2 y3, LeO (tithebarnref17_Of.l0 k y0 y1 y2 y3) (tithebarnref17_Of.l0 (k + 1) y0 y1 y2 y3))
 | 0 => fun _ _ _ _ r h => by simp [tithebarnref17_Of.l0] at h
 | k + 1 => by
  have ih0 := tithebarnref17_Of.mono_l k
  ·intro y0 y1 y2 y3
   unfold tithebarnref17_Of.l0
   repeat' first
   | (with_reducible exact ih0 _ _ _ _)
   | (with_reducible exact LeO.refl _)
   | (with_reducible exact LeO.none _)
   | (with_reducible refine LeO.ite ?_ ?_)
   | (with_reducible refine LeO.bind ?_ (fun _ => ?_))
theorem tithebarnref17_Of.mono : ∀ a0 a1 k, LeO (tithebarnref17_Of.f k a0 a1) (tithebarnref17_Of.f (k + 1) a0 a1) := by
 intro a0 a1 k
 have ih0 := tithebarnref17_Of.mono_l k
 unfold tithebarnref17_Of.f
 repeat' first
   | (with_reducible exact ih0 _ _ _ _)
   | (with_reducible exact LeO.refl _)
   | (with_reducible exact LeO.none _)
   | (with_reducible refine LeO.ite ?_ ?_)
   | (with_reducible refine LeO.bind ?_ (fun _ => ?_))
set_option maxHeartbeats 8000000 in
set_option maxRecDepth 100000 in
theorem tithebarnref17_Of.calls (k : Nat) (A0 : Option Addr) (c0 : Nat) (l0 : List (S38)) (a1 : Int) (r : List (S38)) (w : World) (hr0 : Kd.C k38 w A0 l0.length l0) (hc0 : l0.length ≤ c0) (h : tithebarnref17_Of.f k l0 a1 = some r) :
  Calls Try.prog 23 #[.slice A0 l0.length c0, .int .i64 a1] w fun e w' => ∃ v0_ : Value, e = .returned (v0_) ∧ Kd.R k38 38 w' w.heap.size (fun _ => True) v0_ r ∧ Below w.heap.size w w' := by
 have hu38 := Try.underlying38
 have HR0 := Aside0.mk hr0
 have HC0 := Aside0.mk hc0
 clear hr0 hc0
 have HB := Aside0.mk (Below.refl w.heap.size w)
 have H : (tithebarnref17_Of.l0 k l0 a1 ([] : List (S38)) 0) = some r := h
 clear h
 have H' := Aside0.mk H
 clear H
 go_enter Try.func23, Try.ntmps23
 go_wp2
 go_loopg [5, 6] k (fun kq v5 v6 w' => ∃ (x5_1 : List (S38)) (x6_1 : Int), v6 = .int .i64 x6_1 ∧ Aside0 (tithebarnref17_Of.l0 kq l0 a1 x5_1 x6_1 = some r) ∧ Aside0 (kq ≤ k) ∧ Aside0 (Kd.R k38 38 w' w.heap.size (fun _ => True) v5 x5_1) ∧ Aside0 (Below w.heap.size w w'))
 case atStart => exact ⟨(([] : List (S38))), (0), (by first | rfl | (simp; done) | (simp [*]; done)), H', ⟨Nat.le_refl _⟩, ⟨by first | exact Kd.R_nil _ _ _ _ _ | exact Kd.N_nil _ _ _ _ _ | exact Kd.V_nil _ _ _ _ _ | exact Kd.Q_nil _ _ _ _ _ | exact Kd.S_nil _ _ _ _ _⟩, ⟨by repeat (first | (with_reducible first | exact HB.out | apply below_alloc | apply pw_below_drewN | apply below_drew1) | exact HB.out)⟩⟩
 case round =>
  clear H'
  try clear c2
  try clear p2
  obtain ⟨x5_1, x6_1, rfl, HA, HK1, HO_5, HB⟩ := hrel
  cases gk with
  | zero => exact absurd HA.out (by simp [tithebarnref17_Of.l0])
  | succ k1 =>
   have H := HA.out
   clear HA
   simp only [tithebarnref17_Of.l0] at H
   by_cases c3 : x6_1 < (l0.length : Int)
   ·rw [if_pos c3] at H
    have c3b0 : decide (x6_1 < (l0.length : Int)) = true := decide_eq_true c3
    clear c3
    by_cases c4 : 0 ≤ x6_1
    ·rw [if_pos c4] at H
     have c4b0 : decide (0 ≤ x6_1) = true := decide_eq_true c4
     clear c4
     by_cases c5 : ((rd_T38 l0 x6_1).f1) = a1
     ·rw [if_pos c5] at H
      have c5b0 : (((rd_T38 l0 x6_1).f1) == a1) = true := beq_iff_eq.mpr c5
      have c5b1 : (((rd_T38 l0 x6_1).f1) != a1) = false := bne_eq_false_iff_eq.mpr c5
      clear c5
      by_cases c6 : x5_1.length < 1759218604441
      ·rw [if_pos c6] at H
       have LMc6 := Aside0.mk c6
       clear c6
       obtain ⟨y174, hy174⟩ : ∃ y_ : List (S38), y_ = (x5_1 ++ [(⟨(rd_T38 l0 x6_1).f0, (rd_T38 l0 x6_1).f1, (⟨(rd_T38 l0 x6_1).f2.f0, (rd_T38 l0 x6_1).f2.f1, (rd_T38 l0 x6_1).f2.f2⟩ : S36), (⟨(rd_T38 l0 x6_1).f3.f0, (rd_T38 l0 x6_1).f3.f1, (rd_T38 l0 x6_1).f3.f2⟩ : S36)⟩ : S38)]) := ⟨_, rfl⟩
       replace H : (tithebarnref17_Of.l0 k1 l0 a1 y174 (wrap64 (x6_1 + 1))) = some r := by first | (rw [hy174]; with_reducible exact H) | (have H2_ := (Option.bind_some _ _).symm.trans H; rw [hy174]; with_reducible exact H2_) | (have H2_ := (Option.bind_some _ _).symm.trans H; with_reducible exact H2_) | with_reducible exact H | (rw [hy174]; exact H) | exact H
       have Ny174 := Aside0.mk hy174
       clear hy174
       have H' := Aside0.mk H
       clear H
       have p172 : 0 ≤ (x6_1 : Int) := of_decide_eq_true (by with_reducible assumption)
       have q172 : x6_1 < (l0.length : Int) := of_decide_eq_true (by with_reducible assumption)
       obtain ⟨ad172, e172, hx172_0, hx172_1, hx172_2, hx172_3, hx172_4, hx172_5, hx172_6, hx172_7⟩ := at_T38 HR0.out x6_1 p172 q172
       cases e172
       replace hx172_0 := pw_cell_below HB.out hx172_0
       replace hx172_1 := pw_cell_below HB.out hx172_1
       replace hx172_2 := pw_cell_below HB.out hx172_2
       replace hx172_3 := pw_cell_below HB.out hx172_3
       replace hx172_4 := pw_cell_below HB.out hx172_4
       replace hx172_5 := pw_cell_below HB.out hx172_5
       replace hx172_6 := pw_cell_below HB.out hx172_6
       replace hx172_7 := pw_cell_below HB.out hx172_7
       replace p172 := eq_true p172
       replace q172 := eq_true q172
       have p173 : 0 ≤ (x6_1 : Int) := of_decide_eq_true (by with_reducible assumption)
       have q173 : x6_1 < (l0.length : Int) := of_decide_eq_true (by with_reducible assumption)
       obtain ⟨ad173, e173, hx173_0, hx173_1, hx173_2, hx173_3, hx173_4, hx173_5, hx173_6, hx173_7⟩ := at_T38 HR0.out x6_1 p173 q173
       obtain rfl : ad172 = ad173 := (by injection e173)
       replace hx173_0 := pw_cell_below HB.out hx173_0
       replace hx173_1 := pw_cell_below HB.out hx173_1
       replace hx173_2 := pw_cell_below HB.out hx173_2
       replace hx173_3 := pw_cell_below HB.out hx173_3
       replace hx173_4 := pw_cell_below HB.out hx173_4
       replace hx173_5 := pw_cell_below HB.out hx173_5
       replace hx173_6 := pw_cell_below HB.out hx173_6
       replace hx173_7 := pw_cell_below HB.out hx173_7
       replace p173 := eq_true p173
       replace q173 := eq_true q173
       go_wp2_with (first | ((with_reducible refine gate_builtin (b := .append) (xs := #[.tmp 20, .tmp 25]) rfl ?_); at_builtin; refine Kd.R_append k38 (w0 := w) w.heap.size rfl (.tmp 20) (.tmp 25) 22 38 (.agg #[(.int .i64 0), (.int .i64 0), (.bool false), (.int .i64 0), (.string ⟨#[]⟩), (.bool false), (.int .i64 0), (.string ⟨#[]⟩)]) 80 rfl Try.underlying22 info38 rfl (by decide) (by omega) u5 x5_1 (⟨(rd_T38 l0 x6_1).f0, (rd_T38 l0 x6_1).f1, (⟨(rd_T38 l0 x6_1).f2.f0, (rd_T38 l0 x6_1).f2.f1, (rd_T38 l0 x6_1).f2.f2⟩ : S36), (⟨(rd_T38 l0 x6_1).f3.f0, (rd_T38 l0 x6_1).f3.f1, (rd_T38 l0 x6_1).f3.f2⟩ : S36)⟩ : S38) [.int .i64 ((rd_T38 l0 x6_1).f0), .int .i64 ((rd_T38 l0 x6_1).f1), .bool ((rd_T38 l0 x6_1).f2.f0), .int .i64 ((rd_T38 l0 x6_1).f2.f1), .string ((rd_T38 l0 x6_1).f2.f2), .bool ((rd_T38 l0 x6_1).f3.f0), .int .i64 ((rd_T38 l0 x6_1).f3.f1), .string ((rd_T38 l0 x6_1).f3.f2)] (fun _ => True) (fun _ => False) rfl rfl ?aP (fun _ hk => hk.elim) ?aF ?aO ?aB ?aS ?aL ?_; (case aP => exact k38_mkM _ _ _ (⟨(rd_T38 l0 x6_1).f0, (rd_T38 l0 x6_1).f1, (⟨(rd_T38 l0 x6_1).f2.f0, (rd_T38 l0 x6_1).f2.f1, (rd_T38 l0 x6_1).f2.f2⟩ : S36), (⟨(rd_T38 l0 x6_1).f3.f0, (rd_T38 l0 x6_1).f3.f1, (rd_T38 l0 x6_1).f3.f2⟩ : S36)⟩ : S38)); (case aB => exact (by with_reducible repeat first | exact HB.out | apply below_alloc | apply pw_below_drewN | apply below_drew1)); (case aF => exact (fun _ _ => trivial)); (case aO => exact (by (with_reducible repeat (first | apply Kd.R_alloc | apply Kd.R_drewN | apply Kd.R_drew)); exact HO_5.out)); (case aS => exact (below_size (by with_reducible repeat first | exact HB.out | apply below_alloc | apply pw_below_drewN | apply below_drew1))); (case aL => have := LMc6.out; omega); intro v175 w7 ho hb hg hat; rw [← Ny174.out] at ho; have n0_ := Aside0.mk (hb); have n1_ := Aside0.mk (ho); clear HB; clear HO_5; have HB := n0_; have HO176 := n1_; clear n0_ n1_; clear ho hb hg hat))
       go_roundg k1
       case measure => have := HK1.out; omega
       case rel => exact ⟨(y174), (wrap64 (x6_1 + 1)), (by first | rfl | (simp; done) | (simp [*]; done)), H', ⟨by have := HK1.out; omega⟩, ⟨by (with_reducible repeat (first | apply Kd.R_alloc | apply Kd.R_drewN | apply Kd.R_drew)); exact HO176.out⟩, ⟨by repeat (first | (with_reducible first | exact HB.out | apply below_alloc | apply pw_below_drewN | apply below_drew1) | exact HB.out)⟩⟩
      ·rw [if_neg c6] at H
       exact absurd H (by simp)
     ·rw [if_neg c5] at H
      have c5b0 : (((rd_T38 l0 x6_1).f1) == a1) = false := beq_eq_false_iff_ne.mpr c5
      have c5b1 : (((rd_T38 l0 x6_1).f1) != a1) = true := bne_iff_ne.mpr c5
      have H' := Aside0.mk H
      clear H
      have p172 : 0 ≤ (x6_1 : Int) := of_decide_eq_true (by with_reducible assumption)
      have q172 : x6_1 < (l0.length : Int) := of_decide_eq_true (by with_reducible assumption)
      obtain ⟨ad172, e172, hx172_0, hx172_1, hx172_2, hx172_3, hx172_4, hx172_5, hx172_6, hx172_7⟩ := at_T38 HR0.out x6_1 p172 q172
      cases e172
      replace hx172_0 := pw_cell_below HB.out hx172_0
      replace hx172_1 := pw_cell_below HB.out hx172_1
      replace hx172_2 := pw_cell_below HB.out hx172_2
      replace hx172_3 := pw_cell_below HB.out hx172_3
      replace hx172_4 := pw_cell_below HB.out hx172_4
      replace hx172_5 := pw_cell_below HB.out hx172_5
      replace hx172_6 := pw_cell_below HB.out hx172_6
      replace hx172_7 := pw_cell_below HB.out hx172_7
      replace p172 := eq_true p172
      replace q172 := eq_true q172
      go_wp2
      go_roundg k1
      case measure => have := HK1.out; omega
      case rel => exact ⟨(x5_1), (wrap64 (x6_1 + 1)), (by first | rfl | (simp; done) | (simp [*]; done)), H', ⟨by have := HK1.out; omega⟩, ⟨by (with_reducible repeat (first | apply Kd.R_alloc | apply Kd.R_drewN | apply Kd.R_drew)); exact HO_5.out⟩, ⟨by repeat (first | (with_reducible first | exact HB.out | apply below_alloc | apply pw_below_drewN | apply below_drew1) | exact HB.out)⟩⟩
    ·rw [if_neg c4] at H
     exact absurd H (by simp)
   ·rw [if_neg c3] at H
    have c3b0 : decide (x6_1 < (l0.length : Int)) = false := decide_eq_false c3
    clear c3
    obtain rfl := Option.some.inj H
    go_wp2
    go_ret
    exact ⟨_, by first | rfl | (simp [errW_none, errW_some] <;> rfl) | (simp [*, errW_none, errW_some] <;> rfl), by (with_reducible repeat (first | apply Kd.R_alloc | apply Kd.R_drewN | apply Kd.R_drew)); exact HO_5.out, by repeat (first | (with_reducible first | exact HB.out | apply below_alloc | apply pw_below_drewN | apply below_drew1) | exact HB.out)⟩

end Go.Proofs.Ytcbgcmaioicdbaa.Pr
