/- The row of the law SkipNil: out of its walk (written by rows.py). -/
import Derived.Test.YtnfliommpdjlkaaRows
import Derived.Test.YtnfliommpdjlkaaPureSkipNil
import Derived.Test.YtnfliommpdjlkaaRdk
import Derived.WalkKit
import Derived.ProofKit
import Derived.OpenShut
import Derived.ShutString
import Derived.ChangeOld
import Derived.Below
import Derived.JoinedCond
namespace Go.Proofs.Ytnfliommpdjlkaa.skipNil
open Go.ChangeShapes Go.WideShapes Go.ChangeAt Go.RowKit Go.Proofs.Ytnfliommpdjlkaa.Brid Go.Proofs.Ytnfliommpdjlkaa.Pr
open Go.ChangeMaps (open_string shut_string)
set_option linter.unusedVariables false
theorem own : ownKnob Try.prog.godebug = none := by kernel_rfl
theorem laidOut : laidOutB Try.prog = true := by kernel_rfl
set_option maxRecDepth 100000 in
theorem lifted (os : Os) (started : os.Started) (H : Type) (enc : TypeId × Value → H) :
    ReturnsInHanded {} Try.checked os 13 .any (Rows.skipNilSpec.pre6 enc Try.prog Try.f13 Rows.skipNilRow.domain false) (Rows.skipNilSpec.post enc Try.prog Try.f13 false true false false) := by
  refine returnsInHanded_of_change (C := Try.checked) own started (by kernel_rfl) Try.func13
    (ChangeSpec.witness6 (enc := enc) (C := Try.checked) false ⟨#[], #[.agg #[.bool false, .slice none 0 0], .agg #[.bool false, .int .i64 0, .string ByteArray.empty]], []⟩ 8 (by kernel_rfl) (by kernel_rfl) (by kernel_rfl) (by kernel_rfl)) ?_
  intro W base args ds gs before hval0 hW hcnd _
  have hval : ∀ (j : Nat) t v, Try.f13.params[j]? = some t → args[j]? = some v → Value.okWide Try.prog W .any base t v := hval0
  have hW' := hW
  obtain ⟨p, q, hA0, hV, rfl, hfz, hnd⟩ := hW
  have hA : DataW.TrodAll enc Try.prog W 0 (fun _ => true) true Try.f13.params.toList args.toList ds p := hA0
  rw [Try.params13] at hA hval
  obtain ⟨v0, vs0, d0, ds0, p0, q0, hargs, rfl, rfl, h0, r0⟩ := trodAll_cons hA
  obtain ⟨v1, vs1, d1, ds1, p1, q1, rfl, rfl, rfl, h1, r1⟩ := trodAll_cons r0
  obtain ⟨rfl, rfl, rfl⟩ := trodAll_nil r1
  obtain rfl : args = #[v0, v1] := by cases args; simp_all
  obtain ⟨rfl, rfl⟩ := trodVars_none hV
  have k0 := h0
  have lt0 := trod_blocks h0
  obtain ⟨cs0, x0, rfl, hk0, bm0, bu0⟩ := arg_struct Try.underlying25 rd25 (hval 0 25 v0 rfl rfl) h0
  have b0 := bm0
  obtain ⟨A0_1, c0_1, e0, hc0_1, hr0_1⟩ := k25_open hk0
  obtain rfl : cs0 = #[.bool x0.f0, .slice A0_1 x0.f1.length c0_1] := by rw [← Array.toList_inj]; exact e0
  have k1 := h1
  have lt1 := trod_blocks h1
  obtain ⟨cs1, x1, rfl, hk1, bm1, bu1⟩ := arg_struct Try.underlying27 rd27 (hval 1 27 v1 rfl rfl) h1
  have b1 := bm1
  obtain rfl : cs1 = #[.bool x1.f0, .int .i64 x1.f1, .string x1.f2] := by rw [← Array.toList_inj]; exact k27_open hk1
  clear hA0 hval0
  refine (SkipNil_walk W x0 A0_1 c0_1 hc0_1 hr0_1 b0 x1 b1).mono fun e W' ⟨he, bel⟩ => ?_
  subst he
  exact ⟨_, rfl, _, _, _, [], _, [], hW', trodAll_mk1 (shut_bool Try.underlying4 _), (trodAll_cons_mk (Below.trod laidOut (by kernel_rfl) (of_decide_eq_true (by kernel_rfl)) k0 bel lt0) (trodAll_cons_mk (Below.trod laidOut (by kernel_rfl) (of_decide_eq_true (by kernel_rfl)) k1 bel lt1) trodAll_mk0)), rfl, bel.frame _, fun h => by cases h⟩
theorem over : Rows.skipNilRow.holds Try.pinned (OpenSpec.ofChange Rows.skipNilSpec) :=
  OpenClaim.holds_of_wide 13 Try.f13 rfl rfl rfl rfl rfl rfl rfl ⟨rfl, rfl, rfl, rfl, rfl⟩ rfl rfl rfl rfl rfl (by kernel_rfl) Try.func13 (by kernel_rfl)
    (of_decide_eq_true (by kernel_rfl)) (by unfold Func.isWrapper; first | (rw [if_pos (by decide +kernel)]; kernel_rfl) | (rw [if_neg (by decide +kernel)]; exact ⟨rfl, rfl⟩))
    (fun os started H enc _ => lifted os started H enc)
theorem proved : Rows.SkipNilSaid := over
#print axioms proved
end Go.Proofs.Ytnfliommpdjlkaa.skipNil
namespace Go.Proofs.Ytnfliommpdjlkaa
/-- The row, under a short name, for the claim. -/
theorem skipNil_holds : Rows.SkipNilSaid := skipNil.proved
end Go.Proofs.Ytnfliommpdjlkaa
