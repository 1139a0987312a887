/- Of each struct type: what reads as data at it is told by its kind (written by rows.py). -/
import Derived.Test.YtcbgcmaioicdbaaBrid
import Derived.Test.YtcbgcmaioicdbaaPr0
import Derived.KernelRfl
namespace Go.Proofs.Ytcbgcmaioicdbaa.Pr
open Go.RowKit Go.Proofs.Ytcbgcmaioicdbaa.Brid Go.Proofs.YtcbgcmaioicdbaaW.PrintWords Go.Proofs.YtcbgcmaioicdbaaW.PrintLast Go.Proofs.YtcbgcmaioicdbaaW.PrintMore
set_option linter.unusedVariables false

def B36 : S36 → Nat → Prop := fun x => (BP BB (BP (BI .i64) BS)) (x.f0, x.f1, x.f2)
theorem B36_open {x : S36} {n : Nat} (h : B36 x n) : BB x.f0 n ∧ (BI .i64) x.f1 n ∧ BS x.f2 n := h
theorem mono36 : Mono B36 := mono_iso (mono_P mono_B (mono_P (mono_I .i64) mono_S)) (fun x : S36 => (x.f0, x.f1, x.f2))
theorem rd36 : Rd Try.prog 36 k36 B36 := rd_struct Try.underlying36 (by kernel_rfl) mono36 (rdf_iso (fun x : S36 => (x.f0, x.f1, x.f2)) (fun x => ⟨x.1, x.2.1, x.2.2⟩) (fun _ => rfl) (rdf_cons rfl (by kernel_rfl) mono_B (mono_P (mono_I .i64) mono_S) (rd_bool Try.underlying4) (rdf_cons rfl (by kernel_rfl) (mono_I .i64) mono_S (rd_int Try.underlying2) (rdf_one rfl (by kernel_rfl) mono_S (rd_string Try.underlying9)))))
def B38 : S38 → Nat → Prop := fun x => (BP (BI .i64) (BP (BI .i64) (BP B36 B36))) (x.f0, x.f1, x.f2, x.f3)
theorem B38_open {x : S38} {n : Nat} (h : B38 x n) : (BI .i64) x.f0 n ∧ (BI .i64) x.f1 n ∧ B36 x.f2 n ∧ B36 x.f3 n := h
theorem mono38 : Mono B38 := mono_iso (mono_P (mono_I .i64) (mono_P (mono_I .i64) (mono_P mono36 mono36))) (fun x : S38 => (x.f0, x.f1, x.f2, x.f3))
theorem rd38 : Rd Try.prog 38 k38 B38 := rd_struct Try.underlying38 (by kernel_rfl) mono38 (rdf_iso (fun x : S38 => (x.f0, x.f1, x.f2, x.f3)) (fun x => ⟨x.1, x.2.1, x.2.2.1, x.2.2.2⟩) (fun _ => rfl) (rdf_cons rfl (by kernel_rfl) (mono_I .i64) (mono_P (mono_I .i64) (mono_P mono36 mono36)) (rd_int Try.underlying3) (rdf_cons rfl (by kernel_rfl) (mono_I .i64) (mono_P mono36 mono36) (rd_int Try.underlying3) (rdf_cons rfl (by kernel_rfl) mono36 mono36 rd36 (rdf_one rfl (by kernel_rfl) mono36 rd36)))))
def B27 : S27 → Nat → Prop := fun x => (BP (BI .i64) (BP (BI .i64) (BP (BL (BI .i64)) BB))) (x.f0, x.f1, x.f2, x.f3)
theorem B27_open {x : S27} {n : Nat} (h : B27 x n) : (BI .i64) x.f0 n ∧ (BI .i64) x.f1 n ∧ (BL (BI .i64)) x.f2 n ∧ BB x.f3 n := h
theorem mono27 : Mono B27 := mono_iso (mono_P (mono_I .i64) (mono_P (mono_I .i64) (mono_P (mono_L (mono_I .i64)) mono_B))) (fun x : S27 => (x.f0, x.f1, x.f2, x.f3))
theorem rd27 : Rd Try.prog 27 k27 B27 := rd_struct Try.underlying27 (by kernel_rfl) mono27 (rdf_iso (fun x : S27 => (x.f0, x.f1, x.f2, x.f3)) (fun x => ⟨x.1, x.2.1, x.2.2.1, x.2.2.2⟩) (fun _ => rfl) (rdf_cons rfl (by kernel_rfl) (mono_I .i64) (mono_P (mono_I .i64) (mono_P (mono_L (mono_I .i64)) mono_B)) (rd_int Try.underlying3) (rdf_cons rfl (by kernel_rfl) (mono_I .i64) (mono_P (mono_L (mono_I .i64)) mono_B) (rd_int Try.underlying3) (rdf_cons rfl (by kernel_rfl) (mono_L (mono_I .i64)) mono_B (rd_slice Try.underlying25 (by kernel_rfl) (mono_I .i64) (rd_int Try.underlying3)) (rdf_one rfl (by kernel_rfl) mono_B (rd_bool Try.underlying4))))))
end Go.Proofs.Ytcbgcmaioicdbaa.Pr
