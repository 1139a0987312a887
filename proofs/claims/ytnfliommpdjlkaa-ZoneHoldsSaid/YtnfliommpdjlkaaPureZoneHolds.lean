/- The law ZoneHolds: its walk, out of the contracts of what it calls. -/
import Derived.Test.YtnfliommpdjlkaaRdk
import Derived.Test.YtnfliommpdjlkaaPr0
import Derived.Test.YtnfliommpdjlkaaPrf19
import Derived.Test.YtnfliommpdjlkaaPrf20
import Derived.Test.YtnfliommpdjlkaaPrf21
import Derived.Test.YtnfliommpdjlkaaPrf4
namespace Go.Proofs.Ytnfliommpdjlkaa.Pr
open Go.RowKit Go.Proofs.Ytnfliommpdjlkaa.Brid Go.Proofs.YtnfliommpdjlkaaW.PrintWords Go.Proofs.YtnfliommpdjlkaaW.PrintLast Go.Proofs.YtnfliommpdjlkaaW.PrintMore
set_option linter.unusedVariables false
set_option linter.unusedSimpArgs false
theorem ZoneHolds_walk (W : World) (x0 : S38) (b0 : B38 x0 maxLen) (x1 : S27) (b1 : B27 x1 maxLen) :
    Calls Try.prog 4 #[.agg #[.int .i64 x0.f0, .int .i64 x0.f1, .bool x0.f2.f0, .int .i64 x0.f2.f1, .string x0.f2.f2], .agg #[.bool x1.f0, .int .i64 x1.f1, .string x1.f2]] W fun e W' => e = .returned (.bool true) ∧ Below W.heap.size W W' := by
  obtain ⟨_, _, hv⟩ := B38_open b0
  obtain ⟨_, _, s0⟩ := B27_open hv
  obtain ⟨_, _, s1⟩ := B27_open b1
  have s0' : x0.f2.f2.size ≤ 9223372036854775807 := s0
  have s1' : x1.f2.size ≤ 9223372036854775807 := s1
  refine tithebarnlaw11_ZoneHolds.calls x0.f0 x0.f1 x0.f2.f0 x0.f2.f1 x0.f2.f2 x1.f0 x1.f1 x1.f2 true W ?_
  simp only [tithebarnlaw11_ZoneHolds.f, tithebarnlaw11_lives_c.f, Option.bind_some, if_true, zone_Holds_c.f, tithebarnref11_Holds_c.f, if_pos (⟨s1', s0'⟩ : x1.f2.size ≤ 9223372036854775807 ∧ x0.f2.f2.size ≤ 9223372036854775807), beq_self_eq_true]

end Go.Proofs.Ytnfliommpdjlkaa.Pr
