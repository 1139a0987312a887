/- The law ZoneOf: its walk, out of the contracts of what it calls. -/
import Derived.Test.YtnfliommpdjlkaaRdk
import Derived.Test.YtnfliommpdjlkaaPr0
import Derived.Test.YtnfliommpdjlkaaPrf19
import Derived.Test.YtnfliommpdjlkaaPrf22
import Derived.Test.YtnfliommpdjlkaaPrf23
import Derived.Test.YtnfliommpdjlkaaPrf5
import Derived.Test.YtnfliommpdjlkaaPrzZones
namespace Go.Proofs.Ytnfliommpdjlkaa.Pr
open Go.RowKit Go.Proofs.Ytnfliommpdjlkaa.Brid Go.Proofs.YtnfliommpdjlkaaW.PrintWords Go.Proofs.YtnfliommpdjlkaaW.PrintLast Go.Proofs.YtnfliommpdjlkaaW.PrintMore
set_option linter.unusedVariables false
set_option linter.unusedSimpArgs false
theorem ZoneOf_walk (W : World) (A0 : Option Addr) (c0 : Nat) (l0 : List (S27)) (hc0 : l0.length ≤ c0) (hr0 : Kd.C k27 W A0 l0.length l0) (b0 : BL B27 l0 maxLen) :
    Calls Try.prog 5 #[.slice A0 l0.length c0] W fun e W' => e = .returned (.bool true) ∧ Below W.heap.size W W' := by
  obtain ⟨g0, g1⟩ := b0
  refine tithebarnlaw11_ZoneOf.calls A0 c0 l0 true W hr0 hc0 ?_
  have hs : l0.all (fun v => decide (v.f2.size ≤ 9223372036854775807)) = true := List.all_eq_true.2 fun v hv => decide_eq_true (show v.f2.size ≤ 9223372036854775807 from (B27_open (g1 v hv)).2.2)
  have he : ofZ l0 = ofR l0 := (SaysZ.of l0).only (SaysZ.rof l0) (List.Perm.refl _)
  simp only [tithebarnlaw11_ZoneOf.f, tithebarnlaw11_lives_c.f, Option.bind_some, if_true, zone_Of_c.f, tithebarnref11_Of_c.f, if_pos hs, he]
  simp

end Go.Proofs.Ytnfliommpdjlkaa.Pr
