/- The row of the law SkipPlays, its arguments of bulk at most 1048576: out of its walk (written by rows.py). -/
import Derived.Test.YtnfliommpdjlkaaRows
import Derived.Test.YtnfliommpdjlkaaPureSkipPlays
import Derived.Test.YtnfliommpdjlkaaRdk
import Derived.WalkKit
import Derived.ProofKit
import Derived.OpenShut
import Derived.ShutString
import Derived.ChangeOld
import Derived.Below
import Derived.JoinedCond
namespace Go.Proofs.Ytnfliommpdjlkaa.skipPlays
open Go.ChangeShapes Go.WideShapes Go.ChangeAt Go.RowKit Go.Proofs.Ytnfliommpdjlkaa.Brid Go.Proofs.Ytnfliommpdjlkaa.Pr
open Go.ChangeMaps (open_string shut_string)
set_option linter.unusedVariables false
theorem own : ownKnob Try.prog.godebug = none := by kernel_rfl
theorem laidOut : laidOutB Try.prog = true := by kernel_rfl
theorem bulk_le {H : Type} {l : List (DataW H)} {d : DataW H} (hk : Rows.uptoSmall H l = true) (hd : d ∈ l) : Rows.uptoBulk d ≤ 1048576 := by
  have h := of_decide_eq_true hk
  have := bulk_part hd
  omega
set_option maxRecDepth 100000 in
theorem lifted (os : Os) (started : os.Started) (H : Type) (enc : TypeId × Value → H) (F : Stop.Interp) :
    ReturnsInHanded {} Try.checked os 9 .any ((Rows.OpenSpec.upto Rows.skipPlaysSpec).pre6 enc Try.prog Try.f9 Rows.skipPlaysUptoRow.domain false) (((Rows.OpenSpec.upto Rows.skipPlaysSpec).at F).post enc Try.prog Try.f9 false true false false) := by
  refine returnsInHanded_of_cond (C := Try.checked) (s := Rows.OpenSpec.upto Rows.skipPlaysSpec) (k := Rows.uptoSmall) rfl own started (by kernel_rfl) Try.func9
    (OpenSpec.witness (enc := enc) (C := Try.checked) (s := Rows.OpenSpec.upto Rows.skipPlaysSpec) (k := Rows.uptoSmall) rfl false ⟨#[], #[.int .u64 0, .slice none 0 0, .agg #[.bool false, .int .i64 0, .string ByteArray.empty]], []⟩ 8 (by kernel_rfl) (by kernel_rfl) (by kernel_rfl)
      (x := ([.lit (.int .u64 0), .nil, .agg [.lit (.bool false), .lit (.int .i64 0), .lit (.string [])]], [], [])) (by kernel_rfl) rfl (by kernel_rfl)) ?_
  intro W base args ds gs before hval0 hW _ hk0 _
  have hval : ∀ (j : Nat) t v, Try.f9.params[j]? = some t → args[j]? = some v → Value.okWide Try.prog W .any base t v := hval0
  have hW' := hW
  obtain ⟨p, q, hA0, hV, rfl, hfz, hnd⟩ := hW
  have hA : DataW.TrodAll enc Try.prog W 0 (fun _ => true) true Try.f9.params.toList args.toList ds p := hA0
  rw [Try.params9] at hA hval
  obtain ⟨v0, vs0, d0, ds0, p0, q0, hargs, rfl, rfl, h0, r0⟩ := trodAll_cons hA
  obtain ⟨v1, vs1, d1, ds1, p1, q1, rfl, rfl, rfl, h1, r1⟩ := trodAll_cons r0
  obtain ⟨v2, vs2, d2, ds2, p2, q2, rfl, rfl, rfl, h2, r2⟩ := trodAll_cons r1
  obtain ⟨rfl, rfl, rfl⟩ := trodAll_nil r2
  obtain rfl : args = #[v0, v1, v2] := by cases args; simp_all
  obtain ⟨rfl, rfl⟩ := trodVars_none hV
  have hk : Rows.uptoSmall H [d0, d1, d2] = true := hk0
  have k0 := h0
  have lt0 := trod_blocks h0
  obtain ⟨a0, rfl, b0⟩ := arg_int Try.underlying31 (hval 0 31 v0 rfl rfl) h0
  have k1 := h1
  have lt1 := trod_blocks h1
  obtain ⟨A1, c1, l1, rfl, hc1, hr1, bm1, bu1⟩ := arg_slice Try.underlying50 (by kernel_rfl) mono25 rd25 (hval 1 50 v1 rfl rfl) h1
  have b1 := mono_L mono25 _ _ _ (bulk_le hk (by simp)) bu1
  have k2 := h2
  have lt2 := trod_blocks h2
  obtain ⟨cs2, x2, rfl, hk2, bm2, bu2⟩ := arg_struct Try.underlying27 rd27 (hval 2 27 v2 rfl rfl) h2
  have b2 := mono27 _ _ _ (bulk_le hk (by simp)) bu2
  obtain rfl : cs2 = #[.bool x2.f0, .int .i64 x2.f1, .string x2.f2] := by rw [← Array.toList_inj]; exact k27_open hk2
  clear hA0 hval0
  refine (SkipPlays_walk W a0 b0 A1 c1 l1 hc1 hr1 b1 x2 b2).mono fun e W' ⟨he, bel⟩ => ?_
  subst he
  exact ⟨_, rfl, _, _, _, [], _, [], hW', trodAll_mk1 (shut_bool Try.underlying4 _), (trodAll_cons_mk (Below.trod laidOut (by kernel_rfl) (of_decide_eq_true (by kernel_rfl)) k0 bel lt0) (trodAll_cons_mk (Below.trod laidOut (by kernel_rfl) (of_decide_eq_true (by kernel_rfl)) k1 bel lt1) (trodAll_cons_mk (Below.trod laidOut (by kernel_rfl) (of_decide_eq_true (by kernel_rfl)) k2 bel lt2) trodAll_mk0))), rfl, bel.frame _, fun h => by cases h⟩
theorem over : Rows.skipPlaysUptoRow.holds Try.pinned (Rows.OpenSpec.upto Rows.skipPlaysSpec) :=
  OpenClaim.holds_of_cond 9 Try.f9 rfl rfl rfl rfl rfl rfl rfl ⟨rfl, rfl, rfl, rfl, rfl⟩ rfl rfl rfl rfl rfl (by kernel_rfl) Try.func9 (by kernel_rfl)
    (of_decide_eq_true (by kernel_rfl)) (by unfold Func.isWrapper; first | (rw [if_pos (by decide +kernel)]; kernel_rfl) | (rw [if_neg (by decide +kernel)]; exact ⟨rfl, rfl⟩))
    (fun os started H enc _ F => lifted os started H enc F)
theorem proved : Rows.SkipPlaysUptoSaid := over
#print axioms proved
end Go.Proofs.Ytnfliommpdjlkaa.skipPlays
namespace Go.Proofs.Ytnfliommpdjlkaa
/-- The row, under a short name, for the claim. -/
theorem skipPlays_holds : Rows.SkipPlaysUptoSaid := skipPlays.proved
end Go.Proofs.Ytnfliommpdjlkaa
