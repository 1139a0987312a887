/- The law ZoneJoin: its walk, out of the contracts of what it calls. -/
import Derived.Test.YtnfliommpdjlkaaRdk
import Derived.Test.YtnfliommpdjlkaaPr0
import Derived.Test.YtnfliommpdjlkaaPrf19
import Derived.Test.YtnfliommpdjlkaaPrf22
import Derived.Test.YtnfliommpdjlkaaPrf25
import Derived.Test.YtnfliommpdjlkaaPrf26
import Derived.Test.YtnfliommpdjlkaaPrf37
import Derived.Test.YtnfliommpdjlkaaPrf46
import Derived.Test.YtnfliommpdjlkaaPrf7
import Derived.Test.YtnfliommpdjlkaaPrzZones
import Derived.Test.YtnfliommpdjlkaaThy
namespace Go.Proofs.Ytnfliommpdjlkaa.Pr
open Go.RowKit Go.Proofs.Ytnfliommpdjlkaa.Brid Go.Proofs.YtnfliommpdjlkaaW.PrintWords Go.Proofs.YtnfliommpdjlkaaW.PrintLast Go.Proofs.YtnfliommpdjlkaaW.PrintMore
set_option linter.unusedVariables false
set_option linter.unusedSimpArgs false
theorem ZoneJoin_walk (W : World) (A0 : Option Addr) (c0 : Nat) (l0 : List (S27)) (hc0 : l0.length ≤ c0) (hr0 : Kd.C k27 W A0 l0.length l0) (b0 : BL B27 l0 1048576) (A1 : Option Addr) (c1 : Nat) (l1 : List (S27)) (hc1 : l1.length ≤ c1) (hr1 : Kd.C k27 W A1 l1.length l1) (b1 : BL B27 l1 1048576) :
    Calls Try.prog 7 #[.slice A0 l0.length c0, .slice A1 l1.length c1] W fun e W' => e = .returned (.bool true) ∧ Below W.heap.size W W' := by
  obtain ⟨g0, g1⟩ := b0
  obtain ⟨g2, g3⟩ := b1
  refine tithebarnlaw11_ZoneJoin.calls A0 c0 l0 A1 c1 l1 true W hr0 hc0 hr1 hc1 ?_
  have e0 : ([] : List S27).length + l0.length < 4398046511104 := by rw [List.length_nil]; omega
  have e1 : ([] ++ l0).length + l1.length < 4398046511104 := by rw [List.nil_append]; omega
  have sz : ∀ v ∈ l0 ++ l1, v.f2.size ≤ 9223372036854775807 := by
    intro v hv
    rcases List.mem_append.1 hv with h | h
    · have : v.f2.size ≤ 1048576 := (B27_open (g1 v h)).2.2
      omega
    · have : v.f2.size ≤ 1048576 := (B27_open (g3 v h)).2.2
      omega
  have hj : joinZ (ofZ l0) (ofZ l1) = ofZ (l0 ++ l1) := ((SaysZ.of l0).join (SaysZ.of l1)).only (SaysZ.of (l0 ++ l1)) (List.Perm.refl _)
  have hk : joinZ (ofZ l1) (ofZ l0) = ofZ (l0 ++ l1) := ((SaysZ.of l1).join (SaysZ.of l0)).only (SaysZ.of (l0 ++ l1)) List.perm_append_comm
  have hz := SaysZ.of (l0 ++ l1)
  have hlo : (ofZ (l0 ++ l1)).lo.f2.size ≤ 9223372036854775807 := by
    by_cases h : nnV (l0 ++ l1) = []
    · rw [(hz.no h).1]; exact Nat.zero_le _
    · exact sz _ (List.mem_filter.1 (hz.lo h).1).1
  have hhi : (ofZ (l0 ++ l1)).hi.f2.size ≤ 9223372036854775807 := by
    by_cases h : nnV (l0 ++ l1) = []
    · rw [(hz.no h).2]; exact Nat.zero_le _
    · exact sz _ (List.mem_filter.1 (hz.hi h).1).1
  have hc : ∀ v : S27, Thy.cmpV v.f0 v.f1 v.f2 v.f0 v.f1 v.f2 = 0 := by
    intro v
    refine Thy.cmpV_zero.2 ?_
    cases v.f0
    · exact .inr ⟨rfl, rfl, rfl, rfl⟩
    · exact .inl ⟨rfl, rfl⟩
  simp only [tithebarnlaw11_ZoneJoin.f, tithebarnlaw11_lives_c.f, Option.bind_some, if_true, zone_Of_c.f, if_pos e0, if_pos e1, List.nil_append, zone_Join_c.f, Zn.tup]
  have hj' : joinZ ⟨(ofZ l0).nu, (ofZ l0).va, ⟨(ofZ l0).lo.f0, (ofZ l0).lo.f1, (ofZ l0).lo.f2⟩, ⟨(ofZ l0).hi.f0, (ofZ l0).hi.f1, (ofZ l0).hi.f2⟩⟩ ⟨(ofZ l1).nu, (ofZ l1).va, ⟨(ofZ l1).lo.f0, (ofZ l1).lo.f1, (ofZ l1).lo.f2⟩, ⟨(ofZ l1).hi.f0, (ofZ l1).hi.f1, (ofZ l1).hi.f2⟩⟩ = ofZ (l0 ++ l1) := hj
  have hk' : joinZ ⟨(ofZ l1).nu, (ofZ l1).va, ⟨(ofZ l1).lo.f0, (ofZ l1).lo.f1, (ofZ l1).lo.f2⟩, ⟨(ofZ l1).hi.f0, (ofZ l1).hi.f1, (ofZ l1).hi.f2⟩⟩ ⟨(ofZ l0).nu, (ofZ l0).va, ⟨(ofZ l0).lo.f0, (ofZ l0).lo.f1, (ofZ l0).lo.f2⟩, ⟨(ofZ l0).hi.f0, (ofZ l0).hi.f1, (ofZ l0).hi.f2⟩⟩ = ofZ (l0 ++ l1) := hk
  simp only [hj', hk', tithebarnlaw11_alike.f, tithebarnref02_Compare_c.f, if_pos hlo, if_pos hhi, Option.bind_some, hc, beq_self_eq_true, Bool.and_self, if_true]
  rw [if_pos (by omega : l0.length + l1.length < 4398046511104)]

end Go.Proofs.Ytnfliommpdjlkaa.Pr
