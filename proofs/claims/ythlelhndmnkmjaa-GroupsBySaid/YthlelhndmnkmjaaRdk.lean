/- Of each struct type: what reads as data at it is told by its kind (written by rows.py). -/
import Derived.Test.YthlelhndmnkmjaaBrid
import Derived.Test.YthlelhndmnkmjaaPr0
import Derived.KernelRfl
namespace Go.Proofs.Ythlelhndmnkmjaa.Pr
open Go.RowKit Go.Proofs.Ythlelhndmnkmjaa.Brid Go.Proofs.YthlelhndmnkmjaaW.PrintWords Go.Proofs.YthlelhndmnkmjaaW.PrintLast Go.Proofs.YthlelhndmnkmjaaW.PrintMore
set_option linter.unusedVariables false

def B37 : S37 → Nat → Prop := fun x => (BP BB (BP (BI .i64) BS)) (x.f0, x.f1, x.f2)
theorem B37_open {x : S37} {n : Nat} (h : B37 x n) : BB x.f0 n ∧ (BI .i64) x.f1 n ∧ BS x.f2 n := h
theorem mono37 : Mono B37 := mono_iso (mono_P mono_B (mono_P (mono_I .i64) mono_S)) (fun x : S37 => (x.f0, x.f1, x.f2))
theorem rd37 : Rd Try.prog 37 k37 B37 := rd_struct Try.underlying37 (by kernel_rfl) mono37 (rdf_iso (fun x : S37 => (x.f0, x.f1, x.f2)) (fun x => ⟨x.1, x.2.1, x.2.2⟩) (fun _ => rfl) (rdf_cons rfl (by kernel_rfl) mono_B (mono_P (mono_I .i64) mono_S) (rd_bool Try.underlying4) (rdf_cons rfl (by kernel_rfl) (mono_I .i64) mono_S (rd_int Try.underlying2) (rdf_one rfl (by kernel_rfl) mono_S (rd_string Try.underlying9)))))
def B47 : S47 → Nat → Prop := fun x => (BP (BI .i64) (BP (BI .i64) (BP (BI .i64) (BP B37 B37)))) (x.f0, x.f1, x.f2, x.f3, x.f4)
theorem B47_open {x : S47} {n : Nat} (h : B47 x n) : (BI .i64) x.f0 n ∧ (BI .i64) x.f1 n ∧ (BI .i64) x.f2 n ∧ B37 x.f3 n ∧ B37 x.f4 n := h
theorem mono47 : Mono B47 := mono_iso (mono_P (mono_I .i64) (mono_P (mono_I .i64) (mono_P (mono_I .i64) (mono_P mono37 mono37)))) (fun x : S47 => (x.f0, x.f1, x.f2, x.f3, x.f4))
theorem rd47 : Rd Try.prog 47 k47 B47 := rd_struct Try.underlying47 (by kernel_rfl) mono47 (rdf_iso (fun x : S47 => (x.f0, x.f1, x.f2, x.f3, x.f4)) (fun x => ⟨x.1, x.2.1, x.2.2.1, x.2.2.2.1, x.2.2.2.2⟩) (fun _ => rfl) (rdf_cons rfl (by kernel_rfl) (mono_I .i64) (mono_P (mono_I .i64) (mono_P (mono_I .i64) (mono_P mono37 mono37))) (rd_int Try.underlying3) (rdf_cons rfl (by kernel_rfl) (mono_I .i64) (mono_P (mono_I .i64) (mono_P mono37 mono37)) (rd_int Try.underlying2) (rdf_cons rfl (by kernel_rfl) (mono_I .i64) (mono_P mono37 mono37) (rd_int Try.underlying3) (rdf_cons rfl (by kernel_rfl) mono37 mono37 rd37 (rdf_one rfl (by kernel_rfl) mono37 rd37))))))
def B49 : S49 → Nat → Prop := fun x => (BP B37 B47) (x.f0, x.f1)
theorem B49_open {x : S49} {n : Nat} (h : B49 x n) : B37 x.f0 n ∧ B47 x.f1 n := h
theorem mono49 : Mono B49 := mono_iso (mono_P mono37 mono47) (fun x : S49 => (x.f0, x.f1))
theorem rd49 : Rd Try.prog 49 k49 B49 := rd_struct Try.underlying49 (by kernel_rfl) mono49 (rdf_iso (fun x : S49 => (x.f0, x.f1)) (fun x => ⟨x.1, x.2⟩) (fun _ => rfl) (rdf_cons rfl (by kernel_rfl) mono37 mono47 rd37 (rdf_one rfl (by kernel_rfl) mono47 rd47)))
end Go.Proofs.Ythlelhndmnkmjaa.Pr
