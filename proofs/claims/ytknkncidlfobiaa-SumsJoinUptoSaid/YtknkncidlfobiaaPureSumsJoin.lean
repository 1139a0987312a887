/- The law SumsJoin: its walk, out of the contracts of what it calls. -/
import Derived.Test.YtknkncidlfobiaaRdk
import Derived.Test.YtknkncidlfobiaaPr0
import Derived.Test.YtknkncidlfobiaaPrf11
import Derived.Test.YtknkncidlfobiaaPrf28
import Derived.Test.YtknkncidlfobiaaPrf32
import Derived.Test.YtknkncidlfobiaaPrf33
import Derived.Test.YtknkncidlfobiaaPrf43xc
import Derived.Test.YtknkncidlfobiaaPrzSums
namespace Go.Proofs.Ytknkncidlfobiaa.Pr
open Go.RowKit Go.Proofs.Ytknkncidlfobiaa.Brid Go.Proofs.YtknkncidlfobiaaW.PrintWords Go.Proofs.YtknkncidlfobiaaW.PrintLast Go.Proofs.YtknkncidlfobiaaW.PrintMore
set_option linter.unusedVariables false
set_option linter.unusedSimpArgs false
theorem heapV : Kd.Heap k23 := Kd.heap_iso _ (Kd.heap_pair Kd.heap_scalar (Kd.heap_pair (Kd.heap_int _) Kd.heap_scalar))
theorem heapRow : Kd.Heap (Kd.slice 23 k23) := Kd.heap_slice _ heapV
theorem wfRows {l : List (List S23)} {m : Nat} (g1 : ∀ x ∈ l, BL B23 x m) : ∀ r ∈ l, ∀ x ∈ r, (Lit.int .i64 x.f1).wf = true :=
  fun r hr x hx => (B23_open ((g1 r hr).2 x hx)).2.1
theorem SumsJoin_walk (W : World) (A0 : Option Addr) (c0 : Nat) (l0 : List (List (S23))) (hc0 : l0.length ≤ c0) (hr0 : Kd.C (Kd.slice 23 k23) W A0 l0.length l0) (b0 : BL (BL B23) l0 1048576) (A1 : Option Addr) (c1 : Nat) (l1 : List (List (S23))) (hc1 : l1.length ≤ c1) (hr1 : Kd.C (Kd.slice 23 k23) W A1 l1.length l1) (b1 : BL (BL B23) l1 1048576) (a2 : Int) (b2 : (Lit.int .i64 a2).wf = true) :
    Calls Try.prog 11 #[.slice A0 l0.length c0, .slice A1 l1.length c1, .int .i64 a2] W fun e W' => e = .returned (.bool true) ∧ Below W.heap.size W W' := by
  obtain ⟨g0, g1⟩ := b0
  obtain ⟨g2, g3⟩ := b1
  refine tithebarnlaw18_SumsJoin.calls 1 (fun k => k < W.heap.size) A0 c0 l0 (fun k => k < W.heap.size) A1 c1 l1 a2 true W (Kd.V_mk hc0 (Kd.C_F heapRow hr0)) (Kd.V_mk hc1 (Kd.C_F heapRow hr1)) ?_
  have hw0 := wfRows g1
  have hw1 := wfRows g3
  have hwx : ∀ r ∈ l0 ++ l1, ∀ x ∈ r, (Lit.int .i64 x.f1).wf = true := by
    intro r hr
    rcases List.mem_append.1 hr with h | h
    · exact hw0 r h
    · exact hw1 r h
  have s0 := Says.ofRows a2 l0 hw0 (by omega)
  have s1 := Says.ofRows a2 l1 hw1 (by omega)
  have sx := Says.ofRows a2 (l0 ++ l1) hwx (by rw [List.length_append]; omega)
  have hcl : ∀ l : List (List S23), (colV l a2).length = l.length := fun l => by simp [colV]
  have hj : foldV a2 zeroS (l0 ++ l1) = joinV (foldV a2 zeroS l0) (foldV a2 zeroS l1) := by
    have := s0.join s1 (by rw [hcl, hcl]; omega)
    refine sx.only this ?_
    simp only [colV, List.map_append]
    exact List.Perm.refl _
  have e0 : ([] : List (List S23)).length + l0.length < 5864062014805 := by rw [List.length_nil]; omega
  have e1 : ([] ++ l0).length + l1.length < 5864062014805 := by rw [List.nil_append]; omega
  simp only [tithebarnlaw18_SumsJoin.f, tithebarnlaw18_lives_c.f, Option.bind_some, if_true, sums_Fold_c.f, if_pos e0, if_pos e1]
  simp only [List.nil_append, List.any_append, hj]
  cases h0 : l0.any (fun r => noneB r a2) <;> cases h1 : l1.any (fun r => noneB r a2)
  · simp [Sm.tup10, tithebarnlaw18_SumsJoin.j0, sums_Join_c.f, Sm.tup]
  · simp [Sm.tup10, tithebarnlaw18_SumsJoin.j0, zeroS, z23]
  · simp [Sm.tup10, tithebarnlaw18_SumsJoin.j0, zeroS, z23]
  · simp [Sm.tup10, tithebarnlaw18_SumsJoin.j0, zeroS, z23]

end Go.Proofs.Ytknkncidlfobiaa.Pr
