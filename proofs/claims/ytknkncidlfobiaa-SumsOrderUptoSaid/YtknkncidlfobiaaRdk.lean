/- Of each struct type: what reads as data at it is told by its kind (written by rows.py). -/
import Derived.Test.YtknkncidlfobiaaBrid
import Derived.Test.YtknkncidlfobiaaPr0
import Derived.KernelRfl
namespace Go.Proofs.Ytknkncidlfobiaa.Pr
open Go.RowKit Go.Proofs.Ytknkncidlfobiaa.Brid Go.Proofs.YtknkncidlfobiaaW.PrintWords Go.Proofs.YtknkncidlfobiaaW.PrintLast Go.Proofs.YtknkncidlfobiaaW.PrintMore
set_option linter.unusedVariables false

def B23 : S23 → Nat → Prop := fun x => (BP BB (BP (BI .i64) BS)) (x.f0, x.f1, x.f2)
theorem B23_open {x : S23} {n : Nat} (h : B23 x n) : BB x.f0 n ∧ (BI .i64) x.f1 n ∧ BS x.f2 n := h
theorem mono23 : Mono B23 := mono_iso (mono_P mono_B (mono_P (mono_I .i64) mono_S)) (fun x : S23 => (x.f0, x.f1, x.f2))
theorem rd23 : Rd Try.prog 23 k23 B23 := rd_struct Try.underlying23 (by kernel_rfl) mono23 (rdf_iso (fun x : S23 => (x.f0, x.f1, x.f2)) (fun x => ⟨x.1, x.2.1, x.2.2⟩) (fun _ => rfl) (rdf_cons rfl (by kernel_rfl) mono_B (mono_P (mono_I .i64) mono_S) (rd_bool Try.underlying4) (rdf_cons rfl (by kernel_rfl) (mono_I .i64) mono_S (rd_int Try.underlying2) (rdf_one rfl (by kernel_rfl) mono_S (rd_string Try.underlying9)))))
def B42 : S42 → Nat → Prop := fun x => (BP (BI .i64) BB) (x.f0, x.f1)
theorem B42_open {x : S42} {n : Nat} (h : B42 x n) : (BI .i64) x.f0 n ∧ BB x.f1 n := h
theorem mono42 : Mono B42 := mono_iso (mono_P (mono_I .i64) mono_B) (fun x : S42 => (x.f0, x.f1))
theorem rd42 : Rd Try.prog 42 k42 B42 := rd_struct Try.underlying42 (by kernel_rfl) mono42 (rdf_iso (fun x : S42 => (x.f0, x.f1)) (fun x => ⟨x.1, x.2⟩) (fun _ => rfl) (rdf_cons rfl (by kernel_rfl) (mono_I .i64) mono_B (rd_int Try.underlying40) (rdf_one rfl (by kernel_rfl) mono_B (rd_bool Try.underlying4))))
def B29 : S29 → Nat → Prop := fun x => (BP BB (BP BB (BP B23 B23))) (x.f0, x.f1, x.f2, x.f3)
theorem B29_open {x : S29} {n : Nat} (h : B29 x n) : BB x.f0 n ∧ BB x.f1 n ∧ B23 x.f2 n ∧ B23 x.f3 n := h
theorem mono29 : Mono B29 := mono_iso (mono_P mono_B (mono_P mono_B (mono_P mono23 mono23))) (fun x : S29 => (x.f0, x.f1, x.f2, x.f3))
theorem rd29 : Rd Try.prog 29 k29 B29 := rd_struct Try.underlying29 (by kernel_rfl) mono29 (rdf_iso (fun x : S29 => (x.f0, x.f1, x.f2, x.f3)) (fun x => ⟨x.1, x.2.1, x.2.2.1, x.2.2.2⟩) (fun _ => rfl) (rdf_cons rfl (by kernel_rfl) mono_B (mono_P mono_B (mono_P mono23 mono23)) (rd_bool Try.underlying4) (rdf_cons rfl (by kernel_rfl) mono_B (mono_P mono23 mono23) (rd_bool Try.underlying4) (rdf_cons rfl (by kernel_rfl) mono23 mono23 rd23 (rdf_one rfl (by kernel_rfl) mono23 rd23)))))
end Go.Proofs.Ytknkncidlfobiaa.Pr
