/- MergeOne's walk -/
import Derived.Test.YthlelhndmnkmjaaMiA
import Derived.Test.YthlelhndmnkmjaaRdk
import Derived.Shelf.AbstractIn
namespace Go.Proofs.Ythlelhndmnkmjaa.Pr
open Go.RowKit Go.Proofs.Ythlelhndmnkmjaa.Brid Go.Proofs.YthlelhndmnkmjaaW.PrintWords Go.Proofs.YthlelhndmnkmjaaW.PrintLast Go.Proofs.YthlelhndmnkmjaaW.PrintMore
set_option linter.unusedVariables false
set_option linter.unusedSimpArgs false
set_option maxHeartbeats 4000000
set_option maxRecDepth 100000
theorem MergeOne_walk (W : World) (A0 : Option Addr) (c0 : Nat) (l0 : List (S41)) (hc0 : l0.length ≤ c0) (hr0 : Kd.C k41 W A0 l0.length l0) (b0 : BL B41 l0 1048576) :
    Calls Try.prog 8 #[.slice A0 l0.length c0] W fun e W' => e = .returned (.bool true) ∧ Below W.heap.size W W' := by
  have HLN : Aside0 (l0.length ≤ 1048576) := ⟨b0.1⟩
  have HST : Aside0 (∀ d ∈ l0, (keyT d).f2.size ≤ 9223372036854775807) := ⟨fun d hd => by have := key_bound (b0.2 d hd); omega⟩
  have HC := Aside0.mk hr0
  clear hr0 b0
  go_enter Try.func8, Try.ntmps8
  go_wp2_with fail
  refine (lives_T _).mono ?_
  rintro e w1 ⟨rfl, hb1⟩
  have B1 := Aside0.mk hb1
  clear hb1
  go_wp2_with fail
  refine (New_one A0 c0 l0 W w1 B1.out HC.out hc0 (by have := HLN.out; omega)).mono ?_
  rintro e w2 hN
  obtain ⟨hb2, A2, n2, c2, k2, rfl, hg2, hx2⟩ := hN.alone (l := l0) (w0 := W) (fun h x hx => by rw [List.mem_singleton.1 hx]; exact h) (by simp) nw_one B1.out
  have B2 := Aside0.mk hb2
  have G2 := Aside0.mk hg2
  have X2 := Aside0.mk hx2
  clear hN hb2 hg2 hx2
  go_wp2_with fail
  refine (New_same A0 c0 l0 W w2 B2.out HC.out hc0 (by have := HLN.out; omega)).mono ?_
  rintro e w3 hN
  obtain ⟨hb3, A3, n3, c3, k3, rfl, hg3, hx3⟩ := hN.alone (l := l0) (w0 := W) (fun h x hx => by simp at hx; rw [hx]; exact h) (by simp) nw_same B2.out
  have B3 := Aside0.mk hb3
  have G3 := Aside0.mk hg3
  have X3 := Aside0.mk hx3
  have F3 := Aside0.mk (below_then (below_alloc (Below.refl _ w2) (.cells #[.slice A0 l0.length c0, .slice A0 l0.length c0] 25)) (by simp) hN.below)
  clear hN hb3 hg3 hx3
  go_wp2_with fail
  refine (New_nil A0 c0 l0 W w3 B3.out HC.out hc0 (by have := HLN.out; omega)).mono ?_
  rintro e w4 hN
  obtain ⟨hb4, A4, n4, c4, k4, rfl, hg4, hx4⟩ := hN.alone (l := l0) (w0 := W) okL_two (by simp) nw_nil B3.out
  have B4 := Aside0.mk hb4
  have G4 := Aside0.mk hg4
  have X4 := Aside0.mk hx4
  have F4 := Aside0.mk (below_then (below_alloc (Below.refl _ w3) (.cells #[.slice none 0 0, .slice A0 l0.length c0] 25)) (by simp) hN.below)
  clear hN hb4 hg4 hx4
  go_wp2_with fail
  refine (RSorted_T A0 c0 l0 w4 (Kd.C_below HC.out B4.out) hc0 HST.out (by have := HLN.out; omega)).mono ?_
  rintro e w5 ⟨hb5, r, rfl, hr⟩
  have B5 := Aside0.mk (below_then B4.out B4.out.size hb5)
  have F5 := Aside0.mk hb5
  clear hb5
  cases r with
  | false =>
    have hno : ¬ OkL l0 := fun h => by have := hr.2 h; cases this
    obtain rfl := X2.out hno
    obtain rfl := X3.out hno
    obtain rfl := X4.out hno
    clear hr hno
    go_wp2
    go_ret
    exact ⟨rfl, B5.out⟩
  | true =>
    have hok := hr.1 rfl
    obtain ⟨rfl, rfl, hc2, hC2⟩ := G2.out hok
    obtain ⟨rfl, rfl, hc3, hC3⟩ := G3.out hok
    obtain ⟨rfl, rfl, hc4, hC4⟩ := G4.out hok
    have C2 := Aside0.mk (Kd.C_below hC2 (below_then F3.out F3.out.size (below_then F4.out F4.out.size F5.out)))
    have C3 := Aside0.mk (Kd.C_below hC3 (below_then F4.out F4.out.size F5.out))
    have C4 := Aside0.mk (Kd.C_below hC4 F5.out)
    have C0 := Aside0.mk (Kd.C_below HC.out B5.out)
    clear hr hok hC2 hC3 hC4
    go_wp2_with fail
    refine (SameAll_T A2 c2 l0 A0 c0 w5 C2.out hc2 C0.out hc0 (by have := HLN.out; omega)).mono ?_
    rintro e w6 ⟨rfl, hb6⟩
    have B6 := Aside0.mk (below_then B5.out B5.out.size hb6)
    have D3 := Aside0.mk (Kd.C_below C3.out hb6)
    have D4 := Aside0.mk (Kd.C_below C4.out hb6)
    have D0 := Aside0.mk (Kd.C_below C0.out hb6)
    clear hb6
    go_wp2_with fail
    refine (SameAll_T A3 c3 l0 A0 c0 w6 D3.out hc3 D0.out hc0 (by have := HLN.out; omega)).mono ?_
    rintro e w7 ⟨rfl, hb7⟩
    have B7 := Aside0.mk (below_then B6.out B6.out.size hb7)
    have E4 := Aside0.mk (Kd.C_below D4.out hb7)
    have E0 := Aside0.mk (Kd.C_below D0.out hb7)
    clear hb7
    go_wp2_with fail
    refine (SameAll_T A4 c4 l0 A0 c0 w7 E4.out hc4 E0.out hc0 (by have := HLN.out; omega)).mono ?_
    rintro e w8 ⟨rfl, hb8⟩
    have B8 := Aside0.mk (below_then B7.out B7.out.size hb8)
    clear hb8
    go_wp2
    go_ret
    exact ⟨rfl, B8.out⟩
end Go.Proofs.Ythlelhndmnkmjaa.Pr
