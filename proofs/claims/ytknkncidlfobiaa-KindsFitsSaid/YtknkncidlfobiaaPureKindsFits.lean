/- The law KindsFits: its walk, out of the contracts of what it calls. -/
import Derived.Test.YtknkncidlfobiaaRdk
import Derived.Test.YtknkncidlfobiaaPr0
import Derived.Test.YtknkncidlfobiaaPrf15
import Derived.Test.YtknkncidlfobiaaPrf20
import Derived.Test.YtknkncidlfobiaaPrf21
import Derived.Test.YtknkncidlfobiaaPrf22
import Derived.Test.YtknkncidlfobiaaPrf23
import Derived.Test.YtknkncidlfobiaaPrf24
import Derived.Test.YtknkncidlfobiaaPrf25
import Derived.Test.YtknkncidlfobiaaPrf7
namespace Go.Proofs.Ytknkncidlfobiaa.Pr
open Go.RowKit Go.Proofs.Ytknkncidlfobiaa.Brid Go.Proofs.YtknkncidlfobiaaW.PrintWords Go.Proofs.YtknkncidlfobiaaW.PrintLast Go.Proofs.YtknkncidlfobiaaW.PrintMore
set_option linter.unusedVariables false
set_option linter.unusedSimpArgs false
theorem KindsFits_walk (W : World) (A0 : Option Addr) (c0 : Nat) (l0 : List (S42)) (hc0 : l0.length ≤ c0) (hr0 : Kd.C k42 W A0 l0.length l0) (b0 : BL B42 l0 maxLen) (A1 : Option Addr) (c1 : Nat) (l1 : List (S23)) (hc1 : l1.length ≤ c1) (hr1 : Kd.C k23 W A1 l1.length l1) (b1 : BL B23 l1 maxLen) (x2 : S23) (b2 : B23 x2 maxLen) :
    Calls Try.prog 7 #[.slice A0 l0.length c0, .slice A1 l1.length c1, .agg #[.bool x2.f0, .int .i64 x2.f1, .string x2.f2]] W fun e W' => e = .returned (.bool true) ∧ Below W.heap.size W W' := by
  refine tithebarnlaw02_KindsFits.calls A0 c0 l0 A1 c1 l1 x2.f0 x2.f1 x2.f2 true W hr0 hc0 hr1 hc1 ?_
  simp [tithebarnlaw02_KindsFits.f, tithebarnlaw02_lives_c.f, kinds_Right.f, tithebarnref02_Right_c.f, kinds_Fits_c.f, tithebarnref02_Fits_c.f, kinds_Key_c.f, tithebarnref02_Key_c.f]

end Go.Proofs.Ytknkncidlfobiaa.Pr
