/- The row of the law ZoneParts: out of its walk (written by rows.py). -/
import Derived.Test.YtnfliommpdjlkaaRows
import Derived.Test.YtnfliommpdjlkaaPureZoneParts
import Derived.Test.YtnfliommpdjlkaaRdk
import Derived.WalkKit
import Derived.ProofKit
import Derived.OpenShut
import Derived.ShutString
import Derived.ChangeOld
import Derived.Below
import Derived.JoinedCond
namespace Go.Proofs.Ytnfliommpdjlkaa.zoneParts
open Go.ChangeShapes Go.WideShapes Go.ChangeAt Go.RowKit Go.Proofs.Ytnfliommpdjlkaa.Brid Go.Proofs.Ytnfliommpdjlkaa.Pr
open Go.ChangeMaps (open_string shut_string)
set_option linter.unusedVariables false
theorem own : ownKnob Try.prog.godebug = none := by kernel_rfl
theorem laidOut : laidOutB Try.prog = true := by kernel_rfl
set_option maxRecDepth 100000 in
theorem lifted (os : Os) (started : os.Started) (H : Type) (enc : TypeId × Value → H) :
    ReturnsInHanded {} Try.checked os 8 .any (Rows.zonePartsSpec.pre6 enc Try.prog Try.f8 Rows.zonePartsRow.domain false) (Rows.zonePartsSpec.post enc Try.prog Try.f8 false true false false) := by
  refine returnsInHanded_of_change (C := Try.checked) own started (by kernel_rfl) Try.func8
    (ChangeSpec.witness6 (enc := enc) (C := Try.checked) false ⟨#[], #[.agg #[.bool false, .int .i64 0, .string ByteArray.empty], .agg #[.bool false, .int .i64 0, .string ByteArray.empty]], []⟩ 8 (by kernel_rfl) (by kernel_rfl) (by kernel_rfl) (by kernel_rfl)) ?_
  intro W base args ds gs before hval0 hW hcnd _
  have hval : ∀ (j : Nat) t v, Try.f8.params[j]? = some t → args[j]? = some v → Value.okWide Try.prog W .any base t v := hval0
  have hW' := hW
  obtain ⟨p, q, hA0, hV, rfl, hfz, hnd⟩ := hW
  have hA : DataW.TrodAll enc Try.prog W 0 (fun _ => true) true Try.f8.params.toList args.toList ds p := hA0
  rw [Try.params8] at hA hval
  obtain ⟨v0, vs0, d0, ds0, p0, q0, hargs, rfl, rfl, h0, r0⟩ := trodAll_cons hA
  obtain ⟨v1, vs1, d1, ds1, p1, q1, rfl, rfl, rfl, h1, r1⟩ := trodAll_cons r0
  obtain ⟨rfl, rfl, rfl⟩ := trodAll_nil r1
  obtain rfl : args = #[v0, v1] := by cases args; simp_all
  obtain ⟨rfl, rfl⟩ := trodVars_none hV
  have k0 := h0
  have lt0 := trod_blocks h0
  obtain ⟨cs0, x0, rfl, hk0, bm0, bu0⟩ := arg_struct Try.underlying27 rd27 (hval 0 27 v0 rfl rfl) h0
  have b0 := bm0
  obtain rfl : cs0 = #[.bool x0.f0, .int .i64 x0.f1, .string x0.f2] := by rw [← Array.toList_inj]; exact k27_open hk0
  have k1 := h1
  have lt1 := trod_blocks h1
  obtain ⟨cs1, x1, rfl, hk1, bm1, bu1⟩ := arg_struct Try.underlying27 rd27 (hval 1 27 v1 rfl rfl) h1
  have b1 := bm1
  obtain rfl : cs1 = #[.bool x1.f0, .int .i64 x1.f1, .string x1.f2] := by rw [← Array.toList_inj]; exact k27_open hk1
  clear hA0 hval0
  refine (ZoneParts_walk W x0 b0 x1 b1).mono fun e W' ⟨he, bel⟩ => ?_
  subst he
  exact ⟨_, rfl, _, _, _, [], _, [], hW', trodAll_mk1 (shut_bool Try.underlying4 _), (trodAll_cons_mk (Below.trod laidOut (by kernel_rfl) (of_decide_eq_true (by kernel_rfl)) k0 bel lt0) (trodAll_cons_mk (Below.trod laidOut (by kernel_rfl) (of_decide_eq_true (by kernel_rfl)) k1 bel lt1) trodAll_mk0)), rfl, bel.frame _, fun h => by cases h⟩
theorem over : Rows.zonePartsRow.holds Try.pinned (OpenSpec.ofChange Rows.zonePartsSpec) :=
  OpenClaim.holds_of_wide 8 Try.f8 rfl rfl rfl rfl rfl rfl rfl ⟨rfl, rfl, rfl, rfl, rfl⟩ rfl rfl rfl rfl rfl (by kernel_rfl) Try.func8 (by kernel_rfl)
    (of_decide_eq_true (by kernel_rfl)) (by unfold Func.isWrapper; first | (rw [if_pos (by decide +kernel)]; kernel_rfl) | (rw [if_neg (by decide +kernel)]; exact ⟨rfl, rfl⟩))
    (fun os started H enc _ => lifted os started H enc)
theorem proved : Rows.ZonePartsSaid := over
#print axioms proved
end Go.Proofs.Ytnfliommpdjlkaa.zoneParts
namespace Go.Proofs.Ytnfliommpdjlkaa
/-- The row, under a short name, for the claim. -/
theorem zoneParts_holds : Rows.ZonePartsSaid := zoneParts.proved
end Go.Proofs.Ytnfliommpdjlkaa
