/- The law KindsIn: its walk, out of the contracts of what it calls. -/
import Derived.Test.YtknkncidlfobiaaRdk
import Derived.Test.YtknkncidlfobiaaPr0
import Derived.Test.YtknkncidlfobiaaPrf15
import Derived.Test.YtknkncidlfobiaaPrf16
import Derived.Test.YtknkncidlfobiaaPrf18
import Derived.Test.YtknkncidlfobiaaPrf19
import Derived.Test.YtknkncidlfobiaaPrf34
import Derived.Test.YtknkncidlfobiaaPrf5
import Derived.Test.YtknkncidlfobiaaThy
namespace Go.Proofs.Ytknkncidlfobiaa.Pr
open Go.RowKit Go.Proofs.Ytknkncidlfobiaa.Brid Go.Proofs.YtknkncidlfobiaaW.PrintWords Go.Proofs.YtknkncidlfobiaaW.PrintLast Go.Proofs.YtknkncidlfobiaaW.PrintMore
set_option linter.unusedVariables false
set_option linter.unusedSimpArgs false
theorem KindsIn_walk (W : World) (x0 : S29) (b0 : B29 x0 maxLen) (x1 : S23) (b1 : B23 x1 maxLen) :
    Calls Try.prog 5 #[.agg #[.bool x0.f0, .bool x0.f1, .bool x0.f2.f0, .int .i64 x0.f2.f1, .string x0.f2.f2, .bool x0.f3.f0, .int .i64 x0.f3.f1, .string x0.f3.f2], .agg #[.bool x1.f0, .int .i64 x1.f1, .string x1.f2]] W fun e W' => e = .returned (.bool true) ∧ Below W.heap.size W W' := by
  obtain ⟨_, _, hlo, hhi⟩ := B29_open b0
  obtain ⟨_, _, s1⟩ := B23_open b1
  obtain ⟨_, _, s0⟩ := B23_open hlo
  have s0' : x0.f2.f2.size ≤ 9223372036854775807 := s0
  have s1' : x1.f2.size ≤ 9223372036854775807 := s1
  refine tithebarnlaw02_KindsIn.calls x0.f0 x0.f1 x0.f2.f0 x0.f2.f1 x0.f2.f2 x0.f3.f0 x0.f3.f1 x0.f3.f2 x1.f0 x1.f1 x1.f2 true W ?_
  unfold tithebarnlaw02_KindsIn.f kinds_In.f tithebarnref02_In.f kinds_Compare_c.f tithebarnref02_Ahead_c.f tithebarnlaw02_lives_c.f
  simp only [if_pos s1', Option.bind_some, Thy.cmpV_lt]
  generalize Thy.less x1.f0 x1.f1 x1.f2 x0.f2.f0 x0.f2.f1 x0.f2.f2 = X
  generalize hY : Thy.less x1.f0 x1.f1 x1.f2 x0.f3.f0 x0.f3.f1 x0.f3.f2 = Y
  cases x0.f0 <;> cases x0.f1 <;> cases X <;> cases Y <;> simp

end Go.Proofs.Ytknkncidlfobiaa.Pr
