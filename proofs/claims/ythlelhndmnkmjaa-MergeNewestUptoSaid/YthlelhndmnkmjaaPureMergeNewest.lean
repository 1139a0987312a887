/- MergeNewest's walk -/
import Derived.Test.YthlelhndmnkmjaaMhE
import Derived.Test.YthlelhndmnkmjaaRdk
import Derived.Shelf.AbstractIn
namespace Go.Proofs.Ythlelhndmnkmjaa.Pr
open Go.RowKit Go.Proofs.Ythlelhndmnkmjaa.Brid Go.Proofs.YthlelhndmnkmjaaW.PrintWords Go.Proofs.YthlelhndmnkmjaaW.PrintLast Go.Proofs.YthlelhndmnkmjaaW.PrintMore
set_option linter.unusedVariables false
set_option linter.unusedSimpArgs false
set_option maxHeartbeats 4000000
set_option maxRecDepth 100000
theorem MergeNewest_walk (W : World) (A0 : Option Addr) (c0 : Nat) (l0 : List (List (S41))) (hc0 : l0.length ≤ c0) (hr0 : Kd.C (Kd.slice 41 k41) W A0 l0.length l0) (b0 : BL (BL B41) l0 1048576) :
    Calls Try.prog 3 #[.slice A0 l0.length c0] W fun e W' => e = .returned (.bool true) ∧ Below W.heap.size W W' := by
  have HI := Aside0.mk (inB_of b0)
  have HC := Aside0.mk hr0
  clear hr0 b0
  go_enter Try.func3, Try.ntmps3
  go_wp2_with fail
  refine (lives_T _).mono ?_
  rintro e w1 ⟨rfl, hb1⟩
  have B1 := Aside0.mk hb1
  clear hb1
  go_wp2_with fail
  refine (Early_T A0 c0 l0 w1 (Kd.C_below HC.out B1.out) hc0 (by have := HI.out.len; omega) (fun l hl => by have := HI.out.each l hl; omega)).mono ?_
  rintro e w2 ⟨hb2, A, c, rfl, hl2, hC2⟩
  have B2 := Aside0.mk (below_then B1.out B1.out.size hb2)
  have C2 := Aside0.mk hC2
  have L2 := Aside0.mk hl2
  have HS := Aside0.mk (inB_str HI.out)
  have HL := Aside0.mk (early_len l0)
  have HSU := Aside0.mk (early_sum l0)
  clear hb2 hC2 hl2
  generalize earlyV l0 = xss at *
  go_wp2_with fail
  refine (Newest_T A c xss w2 C2.out L2.out (by have := HL.out; omega) (by have := HSU.out; omega)).mono ?_
  rintro e w3 hN3
  have B3 := Aside0.mk (below_then B2.out B2.out.size hN3.below)
  by_cases hok : ∀ l ∈ xss, OkL l
  · obtain ⟨A3, c3, rfl, hl3, hC3⟩ := hN3.good hok
    have HOK := Aside0.mk hok
    have C3 := Aside0.mk hC3
    have L3 := Aside0.mk hl3
    have C2' := Aside0.mk (Kd.C_below C2.out hN3.below)
    clear hN3 hC3 hl3 hok
    go_wp2_with fail
    refine (RNewest_T A c xss w3 C2'.out L2.out (by have := HL.out; omega) (by have := HSU.out; omega) HS.out).mono ?_
    rintro e w4 hN4
    obtain ⟨A4, c4, rfl, hl4, hC4⟩ := hN4.good HOK.out
    have B4 := Aside0.mk (below_then B3.out B3.out.size hN4.below)
    have C34 := Aside0.mk (Kd.C_below C3.out hN4.below)
    have C4 := Aside0.mk hC4
    have L4 := Aside0.mk hl4
    have HLN := Aside0.mk (nwV_len xss)
    clear hN4 hC4 hl4
    go_wp2_with fail
    refine (SameAll_T A3 c3 (nwV xss) A4 c4 w4 C34.out L3.out C4.out L4.out (by have := HLN.out; have := HSU.out; omega)).mono ?_
    rintro e w5 ⟨rfl, hb5⟩
    have B5 := Aside0.mk (below_then B4.out B4.out.size hb5)
    clear hb5
    go_wp2
    go_ret
    exact ⟨rfl, B5.out⟩
  · have hbd := hN3.bad hok
    subst hbd
    have C2' := Aside0.mk (Kd.C_below C2.out hN3.below)
    have HOK := Aside0.mk hok
    clear hN3 hok
    go_wp2_with fail
    refine (RNewest_T A c xss w3 C2'.out L2.out (by have := HL.out; omega) (by have := HSU.out; omega) HS.out).mono ?_
    rintro e w4 hN4
    have hbd := hN4.bad HOK.out
    subst hbd
    have B4 := Aside0.mk (below_then B3.out B3.out.size hN4.below)
    clear hN4
    go_wp2_with fail
    refine (SameAll_T none 0 [] none 0 w4 (Kd.C_nil _ _) (Nat.le_refl _) (Kd.C_nil _ _) (Nat.le_refl _) (by decide)).mono ?_
    rintro e w5 ⟨rfl, hb5⟩
    have B5 := Aside0.mk (below_then B4.out B4.out.size hb5)
    clear hb5
    go_wp2
    go_ret
    exact ⟨rfl, B5.out⟩
end Go.Proofs.Ythlelhndmnkmjaa.Pr
