/- Of each struct type: what reads as data at it is told by its kind (written by rows.py). -/
import Derived.Test.YthlelhndmnkmjaaBrid
import Derived.Test.YthlelhndmnkmjaaPr0
import Derived.KernelRfl
namespace Go.Proofs.Ythlelhndmnkmjaa.Pr
open Go.RowKit Go.Proofs.Ythlelhndmnkmjaa.Brid Go.Proofs.YthlelhndmnkmjaaW.PrintWords Go.Proofs.YthlelhndmnkmjaaW.PrintLast Go.Proofs.YthlelhndmnkmjaaW.PrintMore
set_option linter.unusedVariables false

def B37 : S37 → Nat → Prop := fun x => (BP BB (BP (BI .i64) BS)) (x.f0, x.f1, x.f2)
theorem B37_open {x : S37} {n : Nat} (h : B37 x n) : BB x.f0 n ∧ (BI .i64) x.f1 n ∧ BS x.f2 n := h
theorem mono37 : Mono B37 := mono_iso (mono_P mono_B (mono_P (mono_I .i64) mono_S)) (fun x : S37 => (x.f0, x.f1, x.f2))
theorem rd37 : Rd Try.prog 37 k37 B37 := rd_struct Try.underlying37 (by kernel_rfl) mono37 (rdf_iso (fun x : S37 => (x.f0, x.f1, x.f2)) (fun x => ⟨x.1, x.2.1, x.2.2⟩) (fun _ => rfl) (rdf_cons rfl (by kernel_rfl) mono_B (mono_P (mono_I .i64) mono_S) (rd_bool Try.underlying4) (rdf_cons rfl (by kernel_rfl) (mono_I .i64) mono_S (rd_int Try.underlying2) (rdf_one rfl (by kernel_rfl) mono_S (rd_string Try.underlying9)))))
def B41 : S41 → Nat → Prop := fun x => (BP BB (BL B37)) (x.f0, x.f1)
theorem B41_open {x : S41} {n : Nat} (h : B41 x n) : BB x.f0 n ∧ (BL B37) x.f1 n := h
theorem mono41 : Mono B41 := mono_iso (mono_P mono_B (mono_L mono37)) (fun x : S41 => (x.f0, x.f1))
theorem rd41 : Rd Try.prog 41 k41 B41 := rd_struct Try.underlying41 (by kernel_rfl) mono41 (rdf_iso (fun x : S41 => (x.f0, x.f1)) (fun x => ⟨x.1, x.2⟩) (fun _ => rfl) (rdf_cons rfl (by kernel_rfl) mono_B (mono_L mono37) (rd_bool Try.underlying4) (rdf_one rfl (by kernel_rfl) (mono_L mono37) (rd_slice Try.underlying39 (by kernel_rfl) mono37 rd37))))
def B70 : S70 → Nat → Prop := fun x => (BP (BL B41) (BI .i64)) (x.f0, x.f1)
theorem B70_open {x : S70} {n : Nat} (h : B70 x n) : (BL B41) x.f0 n ∧ (BI .i64) x.f1 n := h
theorem mono70 : Mono B70 := mono_iso (mono_P (mono_L mono41) (mono_I .i64)) (fun x : S70 => (x.f0, x.f1))
theorem rd70 : Rd Try.prog 70 k70 B70 := rd_struct Try.underlying70 (by kernel_rfl) mono70 (rdf_iso (fun x : S70 => (x.f0, x.f1)) (fun x => ⟨x.1, x.2⟩) (fun _ => rfl) (rdf_cons rfl (by kernel_rfl) (mono_L mono41) (mono_I .i64) (rd_slice Try.underlying25 (by kernel_rfl) mono41 rd41) (rdf_one rfl (by kernel_rfl) (mono_I .i64) (rd_int Try.underlying3))))
end Go.Proofs.Ythlelhndmnkmjaa.Pr
