-- printed by xprint.py
import Derived.Test.YtcbgcmaioicdbaaPr0
import Derived.Test.YtcbgcmaioicdbaaPrf28
namespace Go.Proofs.Ytcbgcmaioicdbaa.Pr
open Go.RowKit Go.Proofs.YtcbgcmaioicdbaaW PrintWords PrintLast PrintMore
set_option linter.unusedVariables false
set_option linter.unusedSimpArgs false

/-! ### levels_full: function 24 -/
def limV (k : Nat) : Nat := if k = 0 then 3 else if k = 1 then 4 else 8
def onV (l : List S38) (a : Int) : List S38 := l.filter (fun p => p.f1 == a)
/-- the least level that is above its limit -/
def fullV (l : List S38) : Option Nat := if limV 0 < (onV l 0).length then some 0 else if limV 1 < (onV l 1).length then some 1 else if limV 2 < (onV l 2).length then some 2 else none
def lvV : Nat → Value → Prop
 | 0, v => v = .int .i64 0
 | 1, v => v = .int .i64 1
 | 2, v => v = .int .i64 2
 | _, v => v = .int .i64 3
def fullR (l : List S38) : Int × Bool := match fullV l with | some k => ((k : Int), true) | none => (0, false)
set_option maxHeartbeats 4000000 in
set_option maxRecDepth 100000 in
theorem limits.calls (w : World) : Calls Try.prog 43 #[] w fun e w' => e = .returned (.agg #[.int .i64 3, .int .i64 4, .int .i64 8]) ∧ Below w.heap.size w w' := by
 go_enter Try.func43, Try.ntmps43
 go_wp2
 refine bodyPost_ret (v := .agg #[.int .i64 3, .int .i64 4, .int .i64 8]) ?_ rfl ⟨rfl, ?_⟩
 ·simp [results, Try.results43, go_sem]
 ·exact below_alloc (Below.refl _ _) _
def levels_full.f (l0 : List S38) : Option (Int × Bool) := if l0.length ≤ 1759218604441 then some (fullR l0) else none
set_option maxHeartbeats 4000000 in
set_option maxRecDepth 100000 in
theorem levels_full.calls (A0 : Option Addr) (c0 : Nat) (l0 : List S38) (r1 : Int) (r2 : Bool) (w : World) (hr0 : Kd.C k38 w A0 l0.length l0) (hc0 : l0.length ≤ c0) (h : levels_full.f l0 = some (r1, r2)) :
  Calls Try.prog 24 #[.slice A0 l0.length c0] w fun e w' => e = .returned (.tuple #[.int .i64 r1, .bool r2]) ∧ Below w.heap.size w w' := by
 unfold levels_full.f at h
 split at h
 ·rename_i g0
  have hR := Option.some.inj h
  clear h
  have HON : Aside0 (∀ (W : World) (a : Int), Below w.heap.size w W → Calls Try.prog 28 #[.slice A0 l0.length c0, .int .i64 a] W fun e w' => ∃ v0_ : Value, e = .returned v0_ ∧ Kd.R k38 38 w' W.heap.size (fun _ => True) v0_ (onV l0 a) ∧ Below W.heap.size W w') :=
   ⟨fun W a hb => levels_on.calls A0 c0 l0 a (onV l0 a) W (Kd.C_below hr0 hb) hc0 (by unfold levels_on.f; rw [if_pos g0]; rfl)⟩
  have HR := Aside0.mk hR
  have HL := limits.calls w
  have hx0 : ∀ w : World, (Instr.index 58 (.agg #[.int .i64 3, .int .i64 4, .int .i64 8]) (.int .i64 0)).run Try.prog w = .ok (.int .i64 3) w := fun w => by kernel_rfl
  have hx1 : ∀ w : World, (Instr.index 58 (.agg #[.int .i64 3, .int .i64 4, .int .i64 8]) (.int .i64 1)).run Try.prog w = .ok (.int .i64 4) w := fun w => by kernel_rfl
  have hx2 : ∀ w : World, (Instr.index 58 (.agg #[.int .i64 3, .int .i64 4, .int .i64 8]) (.int .i64 2)).run Try.prog w = .ok (.int .i64 8) w := fun w => by kernel_rfl
  clear hr0 hc0 hR g0
  go_enter Try.func24, Try.ntmps24
  go_wp2_with (go_at_call 43; refine HL.mono ?_; rintro e w1 ⟨rfl, hb1⟩)
  have HB1 := Aside0.mk hb1
  clear hb1 HL
  go_loopg [4, 5, 7] 3 (fun kx _ _ s7 wr => ∃ k : Nat, lvV k s7 ∧ k ≤ 3 ∧ 3 - k ≤ kx ∧ Aside0 (Below w.heap.size w wr) ∧ Aside0 (∀ j, j < k → ¬ limV j < (onV l0 (j : Int)).length))
  case atStart => exact ⟨0, rfl, by omega, by omega, HB1, ⟨fun j hj => absurd hj (Nat.not_lt_zero _)⟩⟩
  case round =>
   clear HB1
   obtain ⟨k, hs7, hk, hkx, HB, HN⟩ := hrel
   have hcase : k = 0 ∨ k = 1 ∨ k = 2 ∨ k = 3 := by omega
   rcases hcase with rfl | rfl | rfl | rfl
   ·obtain rfl := hs7
    have hon := HON.out wr 0 HB.out
    clear hx1 hx2
    go_wp2_with fail
    refine hon.mono ?_
    rintro e w2 ⟨v, rfl, hR2, hB2⟩
    obtain ⟨A2, c2, rfl⟩ := Kd.R_slice hR2
    have HB2 := Aside0.mk (below_then HB.out HB.out.size hB2)
    clear hon hR2 hB2
    generalize hm : (onV l0 0).length = m
    have HM := Aside0.mk hm
    clear hm
    by_cases hlt : 3 < m
    ·have hz : (3 : Int) < (m : Int) := by omega
     go_wp2
     go_ret2
     have hf : fullV l0 = some 0 := by
      have h0 := HN.out
      unfold fullV
      rw [if_pos (show limV 0 < (onV l0 0).length by show 3 < _; rw [HM.out]; exact hlt)]
     have := HR.out
     rw [fullR, hf] at this
     cases this
     exact ⟨rfl, HB2.out⟩
    ·have hz : ¬ (3 : Int) < (m : Int) := by omega
     go_wp2
     go_roundg 2
     case measure => omega
     case rel => exact ⟨1, rfl, by omega, by omega, HB2, ⟨fun j hj => by
       by_cases e : j = 0
       ·subst e; show ¬ 3 < (onV l0 0).length; rw [HM.out]; exact hlt
       ·exact HN.out j (by omega)⟩⟩
   ·obtain rfl := hs7
    have hon := HON.out wr 1 HB.out
    clear hx0 hx2
    go_wp2_with fail
    refine hon.mono ?_
    rintro e w2 ⟨v, rfl, hR2, hB2⟩
    obtain ⟨A2, c2, rfl⟩ := Kd.R_slice hR2
    have HB2 := Aside0.mk (below_then HB.out HB.out.size hB2)
    clear hon hR2 hB2
    generalize hm : (onV l0 1).length = m
    have HM := Aside0.mk hm
    clear hm
    by_cases hlt : 4 < m
    ·have hz : (4 : Int) < (m : Int) := by omega
     go_wp2
     go_ret2
     have hf : fullV l0 = some 1 := by
      have h0 := HN.out
      unfold fullV
      rw [if_neg (show ¬ limV 0 < (onV l0 0).length from h0 0 (by omega)), if_pos (show limV 1 < (onV l0 1).length by show 4 < _; rw [HM.out]; exact hlt)]
     have := HR.out
     rw [fullR, hf] at this
     cases this
     exact ⟨rfl, HB2.out⟩
    ·have hz : ¬ (4 : Int) < (m : Int) := by omega
     go_wp2
     go_roundg 1
     case measure => omega
     case rel => exact ⟨2, rfl, by omega, by omega, HB2, ⟨fun j hj => by
       by_cases e : j = 1
       ·subst e; show ¬ 4 < (onV l0 1).length; rw [HM.out]; exact hlt
       ·exact HN.out j (by omega)⟩⟩
   ·obtain rfl := hs7
    have hon := HON.out wr 2 HB.out
    clear hx0 hx1
    go_wp2_with fail
    refine hon.mono ?_
    rintro e w2 ⟨v, rfl, hR2, hB2⟩
    obtain ⟨A2, c2, rfl⟩ := Kd.R_slice hR2
    have HB2 := Aside0.mk (below_then HB.out HB.out.size hB2)
    clear hon hR2 hB2
    generalize hm : (onV l0 2).length = m
    have HM := Aside0.mk hm
    clear hm
    by_cases hlt : 8 < m
    ·have hz : (8 : Int) < (m : Int) := by omega
     go_wp2
     go_ret2
     have hf : fullV l0 = some 2 := by
      have h0 := HN.out
      unfold fullV
      rw [if_neg (show ¬ limV 0 < (onV l0 0).length from h0 0 (by omega)), if_neg (show ¬ limV 1 < (onV l0 1).length from h0 1 (by omega)), if_pos (show limV 2 < (onV l0 2).length by show 8 < _; rw [HM.out]; exact hlt)]
     have := HR.out
     rw [fullR, hf] at this
     cases this
     exact ⟨rfl, HB2.out⟩
    ·have hz : ¬ (8 : Int) < (m : Int) := by omega
     go_wp2
     go_roundg 0
     case measure => omega
     case rel => exact ⟨3, rfl, by omega, by omega, HB2, ⟨fun j hj => by
       by_cases e : j = 2
       ·subst e; show ¬ 8 < (onV l0 2).length; rw [HM.out]; exact hlt
       ·exact HN.out j (by omega)⟩⟩
   ·obtain rfl := hs7
    clear hx0 hx1 hx2
    go_wp2
    go_ret2
    have hf : fullV l0 = none := by
     have h0 := HN.out
     unfold fullV
     rw [if_neg (show ¬ limV 0 < (onV l0 0).length from h0 0 (by omega)), if_neg (show ¬ limV 1 < (onV l0 1).length from h0 1 (by omega)), if_neg (show ¬ limV 2 < (onV l0 2).length from h0 2 (by omega))]
    have := HR.out
    rw [fullR, hf] at this
    cases this
    exact ⟨rfl, HB.out⟩
 ·cases h


end Go.Proofs.Ytcbgcmaioicdbaa.Pr
