/- The row of the law SkipOwn, its arguments of bulk at most 1048576: out of its walk (written by rows.py). -/
import Derived.Test.YtnfliommpdjlkaaRows
import Derived.Test.YtnfliommpdjlkaaPureSkipOwn
import Derived.Test.YtnfliommpdjlkaaRdk
import Derived.WalkKit
import Derived.ProofKit
import Derived.OpenShut
import Derived.ShutString
import Derived.ChangeOld
import Derived.Below
import Derived.JoinedCond
namespace Go.Proofs.Ytnfliommpdjlkaa.skipOwn
open Go.ChangeShapes Go.WideShapes Go.ChangeAt Go.RowKit Go.Proofs.Ytnfliommpdjlkaa.Brid Go.Proofs.Ytnfliommpdjlkaa.Pr
open Go.ChangeMaps (open_string shut_string)
set_option linter.unusedVariables false
theorem own : ownKnob Try.prog.godebug = none := by kernel_rfl
theorem laidOut : laidOutB Try.prog = true := by kernel_rfl
theorem bulk_le {H : Type} {l : List (DataW H)} {d : DataW H} (hk : Rows.uptoSmall H l = true) (hd : d ∈ l) : Rows.uptoBulk d ≤ 1048576 := by
  have h := of_decide_eq_true hk
  have := bulk_part hd
  omega
set_option maxRecDepth 100000 in
theorem lifted (os : Os) (started : os.Started) (H : Type) (enc : TypeId × Value → H) (F : Stop.Interp) :
    ReturnsInHanded {} Try.checked os 3 .any ((Rows.OpenSpec.upto Rows.skipOwnSpec).pre6 enc Try.prog Try.f3 Rows.skipOwnUptoRow.domain false) (((Rows.OpenSpec.upto Rows.skipOwnSpec).at F).post enc Try.prog Try.f3 false true false false) := by
  refine returnsInHanded_of_cond (C := Try.checked) (s := Rows.OpenSpec.upto Rows.skipOwnSpec) (k := Rows.uptoSmall) rfl own started (by kernel_rfl) Try.func3
    (OpenSpec.witness (enc := enc) (C := Try.checked) (s := Rows.OpenSpec.upto Rows.skipOwnSpec) (k := Rows.uptoSmall) rfl false ⟨#[], #[.agg #[.bool false, .slice none 0 0], .agg #[.bool false, .int .i64 0, .string ByteArray.empty]], []⟩ 8 (by kernel_rfl) (by kernel_rfl) (by kernel_rfl)
      (x := ([.agg [.lit (.bool false), .nil], .agg [.lit (.bool false), .lit (.int .i64 0), .lit (.string [])]], [], [])) (by kernel_rfl) rfl (by kernel_rfl)) ?_
  intro W base args ds gs before hval0 hW _ hk0 _
  have hval : ∀ (j : Nat) t v, Try.f3.params[j]? = some t → args[j]? = some v → Value.okWide Try.prog W .any base t v := hval0
  have hW' := hW
  obtain ⟨p, q, hA0, hV, rfl, hfz, hnd⟩ := hW
  have hA : DataW.TrodAll enc Try.prog W 0 (fun _ => true) true Try.f3.params.toList args.toList ds p := hA0
  rw [Try.params3] at hA hval
  obtain ⟨v0, vs0, d0, ds0, p0, q0, hargs, rfl, rfl, h0, r0⟩ := trodAll_cons hA
  obtain ⟨v1, vs1, d1, ds1, p1, q1, rfl, rfl, rfl, h1, r1⟩ := trodAll_cons r0
  obtain ⟨rfl, rfl, rfl⟩ := trodAll_nil r1
  obtain rfl : args = #[v0, v1] := by cases args; simp_all
  obtain ⟨rfl, rfl⟩ := trodVars_none hV
  have hk : Rows.uptoSmall H [d0, d1] = true := hk0
  have k0 := h0
  have lt0 := trod_blocks h0
  obtain ⟨cs0, x0, rfl, hk0, bm0, bu0⟩ := arg_struct Try.underlying25 rd25 (hval 0 25 v0 rfl rfl) h0
  have b0 := mono25 _ _ _ (bulk_le hk (by simp)) bu0
  obtain ⟨A0_1, c0_1, e0, hc0_1, hr0_1⟩ := k25_open hk0
  obtain rfl : cs0 = #[.bool x0.f0, .slice A0_1 x0.f1.length c0_1] := by rw [← Array.toList_inj]; exact e0
  have k1 := h1
  have lt1 := trod_blocks h1
  obtain ⟨cs1, x1, rfl, hk1, bm1, bu1⟩ := arg_struct Try.underlying27 rd27 (hval 1 27 v1 rfl rfl) h1
  have b1 := mono27 _ _ _ (bulk_le hk (by simp)) bu1
  obtain rfl : cs1 = #[.bool x1.f0, .int .i64 x1.f1, .string x1.f2] := by rw [← Array.toList_inj]; exact k27_open hk1
  clear hA0 hval0
  refine (SkipOwn_walk W x0 A0_1 c0_1 hc0_1 hr0_1 b0 x1 b1).mono fun e W' ⟨he, bel⟩ => ?_
  subst he
  exact ⟨_, rfl, _, _, _, [], _, [], hW', trodAll_mk1 (shut_bool Try.underlying4 _), (trodAll_cons_mk (Below.trod laidOut (by kernel_rfl) (of_decide_eq_true (by kernel_rfl)) k0 bel lt0) (trodAll_cons_mk (Below.trod laidOut (by kernel_rfl) (of_decide_eq_true (by kernel_rfl)) k1 bel lt1) trodAll_mk0)), rfl, bel.frame _, fun h => by cases h⟩
theorem over : Rows.skipOwnUptoRow.holds Try.pinned (Rows.OpenSpec.upto Rows.skipOwnSpec) :=
  OpenClaim.holds_of_cond 3 Try.f3 rfl rfl rfl rfl rfl rfl rfl ⟨rfl, rfl, rfl, rfl, rfl⟩ rfl rfl rfl rfl rfl (by kernel_rfl) Try.func3 (by kernel_rfl)
    (of_decide_eq_true (by kernel_rfl)) (by unfold Func.isWrapper; first | (rw [if_pos (by decide +kernel)]; kernel_rfl) | (rw [if_neg (by decide +kernel)]; exact ⟨rfl, rfl⟩))
    (fun os started H enc _ F => lifted os started H enc F)
theorem proved : Rows.SkipOwnUptoSaid := over
#print axioms proved
end Go.Proofs.Ytnfliommpdjlkaa.skipOwn
namespace Go.Proofs.Ytnfliommpdjlkaa
/-- The row, under a short name, for the claim. -/
theorem skipOwn_holds : Rows.SkipOwnUptoSaid := skipOwn.proved
end Go.Proofs.Ytnfliommpdjlkaa
