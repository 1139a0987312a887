-- printed by xprint.py
import Derived.Test.YtcbgcmaioicdbaaPr0
import Derived.Test.YtcbgcmaioicdbaaPrf28
import Derived.Test.YtcbgcmaioicdbaaPrf24
import Derived.Test.YtcbgcmaioicdbaaPrf57
import Derived.Test.YtcbgcmaioicdbaaPrf46
import Derived.Test.YtcbgcmaioicdbaaPrf45
import Derived.Test.YtcbgcmaioicdbaaPrf47
import Derived.Test.YtcbgcmaioicdbaaBox
import Derived.Test.YtcbgcmaioicdbaaDel
import Derived.Test.YtcbgcmaioicdbaaThy
namespace Go.Proofs.Ytcbgcmaioicdbaa.Pr
open Go.RowKit Go.Proofs.YtcbgcmaioicdbaaW PrintWords PrintLast PrintMore
set_option linter.unusedVariables false
set_option linter.unusedSimpArgs false

/-! ### levels_chosen: function 25 -/
--@import Derived.Test.YtcbgcmaioicdbaaDel
--@import Derived.Test.YtcbgcmaioicdbaaBox
--@import Derived.Test.YtcbgcmaioicdbaaThy
/-- the library's stable sort of parts, whatever the comparison -/
theorem sortP (cf : S38 → S38 → Int) (g : Nat) (eg : ∀ args w, (callFunc g args).run Try.prog w = .ok (.enter g args) w) (hcmp : Stab.CmpB Try.prog g #[] encE cf) (hO : Sort.SWO (ltOf cf))
  (P0_ : Nat → Prop) (u : Value) (l0 : List S38) (base : Nat) (w : World) (ho0 : Kd.R k38 38 w base P0_ u l0) (hl : l0.length < 1152921504606846976) :
  Calls Try.prog 31 #[u, .func (.func g) #[] #[]] w fun e w' => e = .returned (.tuple #[]) ∧ Kd.R k38 38 w' base P0_ u (Stab.ssort (ltOf cf) l0) ∧ w.grownBy w' u.ownBlock :=
 (Stab.sortOwn k38 encE Stab.lay (fun _ => rfl) encE_one (fun h => k38_openM h) k38_mkM cf g #[] eg hcmp hO ho0 hl).mono fun e w' ⟨h1, h2, h3⟩ => ⟨h1, h2, h3⟩
def cfId (x y : S38) : Int := if x.f0 < y.f0 then -1 else if y.f0 < x.f0 then 1 else 0
def cfDn (x y : S38) : Int := cfId y x
theorem cmpInt.is (a b : Int) : cmp_Compare_int.f a b = some (if a < b then -1 else if b < a then 1 else 0) := by
 simp [cmp_Compare_int.f, cmp_isNaN_int.f]
 split
 ·rfl
 ·split <;> rfl
theorem cfDn_lt (x y : S38) : ltOf cfDn x y = decide (y.f0 < x.f0) := by
 unfold ltOf cfDn cfId
 by_cases h : y.f0 < x.f0
 ·simp [h]
 ·by_cases h2 : x.f0 < y.f0 <;> simp [h, h2]
theorem cfDn_swo : Sort.SWO (ltOf cfDn) := by
 refine ⟨fun x => ?_, fun x y z h1 h2 => ?_, fun x y z h1 h2 => ?_⟩
 ·rw [cfDn_lt]; simp
 ·rw [cfDn_lt] at *; simp at *; omega
 ·rw [cfDn_lt] at *; simp at *; omega
theorem cfDn_cmp : Stab.CmpB Try.prog 47 #[] encE cfDn := by
 intro x y W
 have h := levels_chosen_2.calls x.f0 x.f1 x.f2.f0 x.f2.f1 x.f2.f2 x.f3.f0 x.f3.f1 x.f3.f2 y.f0 y.f1 y.f2.f0 y.f2.f1 y.f2.f2 y.f3.f0 y.f3.f1 y.f3.f2 (cfDn x y) W (by unfold levels_chosen_2.f; rw [cmpInt.is]; rfl)
 rw [Array.append_empty]
 exact h.mono fun e w' ⟨he, hb⟩ => ⟨he, hb⟩
theorem cfId_calls (x y : S38) (W : World) : Calls Try.prog 45 (#[.agg (encE x).toArray, .agg (encE y).toArray] ++ #[]) W fun e w' => e = .returned (.int .i64 (cfId x y)) ∧ Below W.heap.size W w' := by
 have h := levels_chosen_1.calls x.f0 x.f1 x.f2.f0 x.f2.f1 x.f2.f2 x.f3.f0 x.f3.f1 x.f3.f2 y.f0 y.f1 y.f2.f0 y.f2.f1 y.f2.f2 y.f3.f0 y.f3.f1 y.f3.f2 (cfId x y) W (by unfold levels_chosen_1.f; rw [cmpInt.is]; rfl)
 rw [Array.append_empty]
 exact h.mono fun e w' ⟨he, hb⟩ => ⟨he, hb⟩
def chosenV (l : List S38) (level : Int) : Option (List S38) :=
 if level > 0 then (match onV l level with | [] => none | x :: t => some [Stab.minOf cfId x t]) else some (Stab.ssort (ltOf cfDn) (onV l level))
def levels_chosen.f (l0 : List S38) (a1 : Int) : Option (List S38) := if l0.length ≤ 1759218604441 then chosenV l0 a1 else none
set_option maxHeartbeats 4000000 in
set_option maxRecDepth 100000 in
theorem levels_chosen.calls (A0 : Option Addr) (c0 : Nat) (l0 : List S38) (a1 : Int) (r : List S38) (w : World) (hr0 : Kd.C k38 w A0 l0.length l0) (hc0 : l0.length ≤ c0) (h : levels_chosen.f l0 a1 = some r) :
  Calls Try.prog 25 #[.slice A0 l0.length c0, .int .i64 a1] w fun e w' => ∃ v0_ : Value, e = .returned v0_ ∧ Kd.R k38 38 w' w.heap.size (fun _ => True) v0_ r ∧ Below w.heap.size w w' := by
 unfold levels_chosen.f at h
 split at h
 ·rename_i g0
  have hon := levels_on.calls A0 c0 l0 a1 (onV l0 a1) w hr0 hc0 (by unfold levels_on.f; rw [if_pos g0]; rfl)
  have hll : (onV l0 a1).length ≤ 1759218604441 := Nat.le_trans (List.length_filter_le _ _) g0
  have HH := Aside0.mk h
  clear hr0 hc0 g0 h
  generalize hq : onV l0 a1 = q at hon hll
  have HQ := Aside0.mk hq
  clear hq
  by_cases hpos : a1 > 0
  ·have hposz : (0 : Int) < a1 := hpos
   go_enter Try.func25, Try.ntmps25
   go_wp2_with fail
   refine hon.mono ?_
   rintro e w1 ⟨v1, rfl, hR1, hB1⟩
   have hr := HH.out
   unfold chosenV at hr
   rw [if_pos (by omega), HQ.out] at hr
   cases q with
   | nil => cases hr
   | cons x t =>
    simp only at hr
    obtain rfl := Option.some.inj hr
    clear hr
    rcases Stab.own_cases k38 encE (fun _ => rfl) (fun h => k38_openM h) k38_mkM hR1 with ⟨h, he⟩ | ⟨gb, cap, cs, rfl, hg, hh, hH, hback⟩
    ·cases he
    ·have hm := Stab.minFunc Stab.layM encE cfId 45 (enters_of Try.func45 (by kernel_rfl) rfl) gb 0 cap (x :: t).toArray w1 rowE hH (blk_lt hh) (by simp) (by simp at hll ⊢; omega) (fun W x y _ => cfId_calls x y W)
     have e0 : (x :: t).toArray[0]! = x := rfl
     have e1 : (x :: t).toArray.toList.drop 1 = t := by simp
     rw [e0, e1] at hm
     generalize hmx : Stab.minOf cfId x t = m at hm
     have HMX := Aside0.mk hmx
     have hm2 : Calls Try.prog 44 #[.slice (some ⟨gb, 0, none⟩) (x :: t).length cap, .func (.func 45) #[] #[]] w1 fun e w' => e = .returned (.agg #[.int .i64 m.f0, .int .i64 m.f1, .bool m.f2.f0, .int .i64 m.f2.f1, .string m.f2.f2, .bool m.f3.f0, .int .i64 m.f3.f1, .string m.f3.f2]) ∧ Below w1.heap.size w1 w' := hm
     have HB1 := Aside0.mk hB1
     clear hm hmx e0 e1 hR1 hB1 hg hh hH hback hon hll
     go_wp2_with fail
     refine hm2.mono ?_
     rintro e w2 ⟨rfl, hB2⟩
     have HB2 := Aside0.mk (below_then HB1.out HB1.out.size hB2)
     have HR1 := Aside0.mk (R_one w2 m)
     clear hB2 hm2
     go_wp2
     go_ret
     exact ⟨.slice (some ⟨w2.heap.size, 0, none⟩) 1 1, rfl, by rw [HMX.out]; exact Kd.R_lower HR1.out HB2.out.size, below_alloc HB2.out _⟩
  ·have hposz : ¬ (0 : Int) < a1 := hpos
   go_enter Try.func25, Try.ntmps25
   go_wp2_with fail
   refine hon.mono ?_
   rintro e w1 ⟨v1, rfl, hR1, hB1⟩
   have hr := HH.out
   unfold chosenV at hr
   rw [if_neg (by omega), HQ.out] at hr
   obtain rfl := Option.some.inj hr
   clear hr
   have hs := sortP cfDn 47 (enters_of Try.func47 (by kernel_rfl) rfl) cfDn_cmp cfDn_swo _ v1 q _ w1 hR1 (by omega)
   have HOB : Aside0 (∀ k, v1.ownBlock = some k → w.heap.size ≤ k) := ⟨fun k hk => Kd.R_base hR1 k hk⟩
   have HB1 := Aside0.mk hB1
   clear hR1 hB1 hon hll
   go_wp2_with fail
   refine hs.mono ?_
   rintro e w2 ⟨rfl, hR2, hg⟩
   have HR2 := Aside0.mk hR2
   have HG := Aside0.mk hg
   clear hR2 hg hs
   go_wp2
   go_ret
   exact ⟨_, rfl, HR2.out, pw_below_grown HB1.out _ HB1.out.size HG.out (fun k hk => HOB.out k hk)⟩
 ·cases h


end Go.Proofs.Ytcbgcmaioicdbaa.Pr
