/- Of each struct type: what reads as data at it is told by its kind (written by rows.py). -/
import Derived.Test.YtnfliommpdjlkaaBrid
import Derived.Test.YtnfliommpdjlkaaPr0
import Derived.KernelRfl
namespace Go.Proofs.Ytnfliommpdjlkaa.Pr
open Go.RowKit Go.Proofs.Ytnfliommpdjlkaa.Brid Go.Proofs.YtnfliommpdjlkaaW.PrintWords Go.Proofs.YtnfliommpdjlkaaW.PrintLast Go.Proofs.YtnfliommpdjlkaaW.PrintMore
set_option linter.unusedVariables false

def B27 : S27 → Nat → Prop := fun x => (BP BB (BP (BI .i64) BS)) (x.f0, x.f1, x.f2)
theorem B27_open {x : S27} {n : Nat} (h : B27 x n) : BB x.f0 n ∧ (BI .i64) x.f1 n ∧ BS x.f2 n := h
theorem mono27 : Mono B27 := mono_iso (mono_P mono_B (mono_P (mono_I .i64) mono_S)) (fun x : S27 => (x.f0, x.f1, x.f2))
theorem rd27 : Rd Try.prog 27 k27 B27 := rd_struct Try.underlying27 (by kernel_rfl) mono27 (rdf_iso (fun x : S27 => (x.f0, x.f1, x.f2)) (fun x => ⟨x.1, x.2.1, x.2.2⟩) (fun _ => rfl) (rdf_cons rfl (by kernel_rfl) mono_B (mono_P (mono_I .i64) mono_S) (rd_bool Try.underlying4) (rdf_cons rfl (by kernel_rfl) (mono_I .i64) mono_S (rd_int Try.underlying2) (rdf_one rfl (by kernel_rfl) mono_S (rd_string Try.underlying9)))))
def B38 : S38 → Nat → Prop := fun x => (BP (BI .i64) (BP (BI .i64) B27)) (x.f0, x.f1, x.f2)
theorem B38_open {x : S38} {n : Nat} (h : B38 x n) : (BI .i64) x.f0 n ∧ (BI .i64) x.f1 n ∧ B27 x.f2 n := h
theorem mono38 : Mono B38 := mono_iso (mono_P (mono_I .i64) (mono_P (mono_I .i64) mono27)) (fun x : S38 => (x.f0, x.f1, x.f2))
theorem rd38 : Rd Try.prog 38 k38 B38 := rd_struct Try.underlying38 (by kernel_rfl) mono38 (rdf_iso (fun x : S38 => (x.f0, x.f1, x.f2)) (fun x => ⟨x.1, x.2.1, x.2.2⟩) (fun _ => rfl) (rdf_cons rfl (by kernel_rfl) (mono_I .i64) (mono_P (mono_I .i64) mono27) (rd_int Try.underlying3) (rdf_cons rfl (by kernel_rfl) (mono_I .i64) mono27 (rd_int Try.underlying3) (rdf_one rfl (by kernel_rfl) mono27 rd27))))
def B41 : S41 → Nat → Prop := fun x => (BP BB (BP BB (BP B27 B27))) (x.f0, x.f1, x.f2, x.f3)
theorem B41_open {x : S41} {n : Nat} (h : B41 x n) : BB x.f0 n ∧ BB x.f1 n ∧ B27 x.f2 n ∧ B27 x.f3 n := h
theorem mono41 : Mono B41 := mono_iso (mono_P mono_B (mono_P mono_B (mono_P mono27 mono27))) (fun x : S41 => (x.f0, x.f1, x.f2, x.f3))
theorem rd41 : Rd Try.prog 41 k41 B41 := rd_struct Try.underlying41 (by kernel_rfl) mono41 (rdf_iso (fun x : S41 => (x.f0, x.f1, x.f2, x.f3)) (fun x => ⟨x.1, x.2.1, x.2.2.1, x.2.2.2⟩) (fun _ => rfl) (rdf_cons rfl (by kernel_rfl) mono_B (mono_P mono_B (mono_P mono27 mono27)) (rd_bool Try.underlying4) (rdf_cons rfl (by kernel_rfl) mono_B (mono_P mono27 mono27) (rd_bool Try.underlying4) (rdf_cons rfl (by kernel_rfl) mono27 mono27 rd27 (rdf_one rfl (by kernel_rfl) mono27 rd27)))))
def B25 : S25 → Nat → Prop := fun x => (BP BB (BL B27)) (x.f0, x.f1)
theorem B25_open {x : S25} {n : Nat} (h : B25 x n) : BB x.f0 n ∧ (BL B27) x.f1 n := h
theorem mono25 : Mono B25 := mono_iso (mono_P mono_B (mono_L mono27)) (fun x : S25 => (x.f0, x.f1))
theorem rd25 : Rd Try.prog 25 k25 B25 := rd_struct Try.underlying25 (by kernel_rfl) mono25 (rdf_iso (fun x : S25 => (x.f0, x.f1)) (fun x => ⟨x.1, x.2⟩) (fun _ => rfl) (rdf_cons rfl (by kernel_rfl) mono_B (mono_L mono27) (rd_bool Try.underlying4) (rdf_one rfl (by kernel_rfl) (mono_L mono27) (rd_slice Try.underlying23 (by kernel_rfl) mono27 rd27))))
end Go.Proofs.Ytnfliommpdjlkaa.Pr
