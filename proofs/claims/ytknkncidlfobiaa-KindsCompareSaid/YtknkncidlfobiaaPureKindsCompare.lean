/- The law KindsCompare: its walk, out of the contracts of what it calls. -/
import Derived.Test.YtknkncidlfobiaaRdk
import Derived.Test.YtknkncidlfobiaaPr0
import Derived.Test.YtknkncidlfobiaaPrf15
import Derived.Test.YtknkncidlfobiaaPrf16
import Derived.Test.YtknkncidlfobiaaPrf17
import Derived.Test.YtknkncidlfobiaaPrf3
namespace Go.Proofs.Ytknkncidlfobiaa.Pr
open Go.RowKit Go.Proofs.Ytknkncidlfobiaa.Brid Go.Proofs.YtknkncidlfobiaaW.PrintWords Go.Proofs.YtknkncidlfobiaaW.PrintLast Go.Proofs.YtknkncidlfobiaaW.PrintMore
set_option linter.unusedVariables false
set_option linter.unusedSimpArgs false
theorem KindsCompare_walk (W : World) (x0 : S23) (b0 : B23 x0 maxLen) (x1 : S23) (b1 : B23 x1 maxLen) :
    Calls Try.prog 3 #[.agg #[.bool x0.f0, .int .i64 x0.f1, .string x0.f2], .agg #[.bool x1.f0, .int .i64 x1.f1, .string x1.f2]] W fun e W' => e = .returned (.bool true) ∧ Below W.heap.size W W' := by
  obtain ⟨_, _, s0⟩ := B23_open b0
  obtain ⟨_, _, s1⟩ := B23_open b1
  have s0' : x0.f2.size ≤ 9223372036854775807 := s0
  have s1' : x1.f2.size ≤ 9223372036854775807 := s1
  refine tithebarnlaw02_KindsCompare.calls x0.f0 x0.f1 x0.f2 x1.f0 x1.f1 x1.f2 true W ?_
  simp [tithebarnlaw02_KindsCompare.f, tithebarnlaw02_lives_c.f, kinds_Compare_c.f, tithebarnref02_Compare_c.f, s0', s1']

end Go.Proofs.Ytknkncidlfobiaa.Pr
