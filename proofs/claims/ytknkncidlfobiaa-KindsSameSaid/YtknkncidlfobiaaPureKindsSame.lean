/- The law KindsSame: its walk, out of the contracts of what it calls. -/
import Derived.Test.YtknkncidlfobiaaRdk
import Derived.Test.YtknkncidlfobiaaPr0
import Derived.Test.YtknkncidlfobiaaPrf15
import Derived.Test.YtknkncidlfobiaaPrf26
import Derived.Test.YtknkncidlfobiaaPrf27
import Derived.Test.YtknkncidlfobiaaPrf42
import Derived.Test.YtknkncidlfobiaaPrf9
namespace Go.Proofs.Ytknkncidlfobiaa.Pr
open Go.RowKit Go.Proofs.Ytknkncidlfobiaa.Brid Go.Proofs.YtknkncidlfobiaaW.PrintWords Go.Proofs.YtknkncidlfobiaaW.PrintLast Go.Proofs.YtknkncidlfobiaaW.PrintMore
set_option linter.unusedVariables false
set_option linter.unusedSimpArgs false
theorem sameB_self (l : List S23) : sameB l l = true := by
  have : ∀ l : List S23, (l.zip l).all (fun p => eqV p.1 p.2) = true := by
    intro l
    induction l with
    | nil => rfl
    | cons x r ih => rw [List.zip_cons_cons, List.all_cons, ih]; simp [eqV]
  rw [sameB, this]; simp
theorem KindsSame_walk (W : World) (A0 : Option Addr) (c0 : Nat) (l0 : List (S23)) (hc0 : l0.length ≤ c0) (hr0 : Kd.C k23 W A0 l0.length l0) (b0 : BL B23 l0 maxLen) (A1 : Option Addr) (c1 : Nat) (l1 : List (S23)) (hc1 : l1.length ≤ c1) (hr1 : Kd.C k23 W A1 l1.length l1) (b1 : BL B23 l1 maxLen) :
    Calls Try.prog 9 #[.slice A0 l0.length c0, .slice A1 l1.length c1] W fun e W' => e = .returned (.bool true) ∧ Below W.heap.size W W' := by
  refine tithebarnlaw02_KindsSame.calls A0 c0 l0 A1 c1 l1 true W hr0 hc0 hr1 hc1 ?_
  simp [tithebarnlaw02_KindsSame.f, tithebarnlaw02_lives_c.f, kinds_Same.f, slices_Equal_Row.f, tithebarnref02_Same_c.f, sameB_self]

end Go.Proofs.Ytknkncidlfobiaa.Pr
