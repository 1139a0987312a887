/- The law SumsProject: its walk, out of the contracts of what it calls. -/
import Derived.Test.YtknkncidlfobiaaRdk
import Derived.Test.YtknkncidlfobiaaPr0
import Derived.Test.YtknkncidlfobiaaPrf10
import Derived.Test.YtknkncidlfobiaaPrf28
import Derived.Test.YtknkncidlfobiaaPrf29
import Derived.Test.YtknkncidlfobiaaPrf30
import Derived.Test.YtknkncidlfobiaaPrf31
import Derived.Test.YtknkncidlfobiaaPrf42
namespace Go.Proofs.Ytknkncidlfobiaa.Pr
open Go.RowKit Go.Proofs.Ytknkncidlfobiaa.Brid Go.Proofs.YtknkncidlfobiaaW.PrintWords Go.Proofs.YtknkncidlfobiaaW.PrintLast Go.Proofs.YtknkncidlfobiaaW.PrintMore
set_option linter.unusedVariables false
set_option linter.unusedSimpArgs false
theorem sameRows_self (l : List (List S23)) : sameRowsB l l = true := by
  have hs : ∀ r : List S23, sameB r r = true := by
    intro r
    have : ∀ l : List S23, (l.zip l).all (fun p => eqV p.1 p.2) = true := by
      intro l
      induction l with
      | nil => rfl
      | cons x r ih => rw [List.zip_cons_cons, List.all_cons, ih]; simp [eqV]
    rw [sameB, this]; simp
  have : (l.zip l).all (fun p => sameB p.1 p.2) = true := by
    induction l with
    | nil => rfl
    | cons x r ih => rw [List.zip_cons_cons, List.all_cons, ih, hs]; rfl
  rw [sameRowsB, this]; simp
theorem SumsProject_walk (W : World) (A0 : Option Addr) (c0 : Nat) (l0 : List (List (S23))) (hc0 : l0.length ≤ c0) (hr0 : Kd.C (Kd.slice 23 k23) W A0 l0.length l0) (b0 : BL (BL B23) l0 1048576) (A1 : Option Addr) (c1 : Nat) (l1 : List (Int)) (hc1 : l1.length ≤ c1) (hr1 : Kd.C (Kd.int .i64) W A1 l1.length l1) (b1 : BL (BI .i64) l1 1048576) :
    Calls Try.prog 10 #[.slice A0 l0.length c0, .slice A1 l1.length c1] W fun e W' => e = .returned (.bool true) ∧ Below W.heap.size W W' := by
  obtain ⟨h0, _⟩ := b0
  obtain ⟨h1, _⟩ := b1
  refine tithebarnlaw18_SumsProject.calls A0 c0 l0 A1 c1 l1 true W hr0 hc0 hr1 hc1 ?_
  have e1 : l1.length ≤ 4398046511104 := by omega
  have e0 : l0.length ≤ 5864062014805 := by omega
  simp only [tithebarnlaw18_SumsProject.f, tithebarnlaw18_lives_c.f, sums_Project_c.f, tithebarnref18_Project_c.f, if_pos e1, if_pos e0, Option.bind_some, if_true, tithebarnref02_SameRows_c.f, sameRows_self]

end Go.Proofs.Ytknkncidlfobiaa.Pr
