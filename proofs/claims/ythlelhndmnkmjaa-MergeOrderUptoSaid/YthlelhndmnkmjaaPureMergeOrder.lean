/- MergeOrder's walk -/
import Derived.Test.YthlelhndmnkmjaaMiA
import Derived.Test.YthlelhndmnkmjaaRdk
import Derived.Shelf.AbstractIn
namespace Go.Proofs.Ythlelhndmnkmjaa.Pr
open Go.RowKit Go.Proofs.Ythlelhndmnkmjaa.Brid Go.Proofs.YthlelhndmnkmjaaW.PrintWords Go.Proofs.YthlelhndmnkmjaaW.PrintLast Go.Proofs.YthlelhndmnkmjaaW.PrintMore
set_option linter.unusedVariables false
set_option linter.unusedSimpArgs false
set_option maxHeartbeats 4000000
set_option maxRecDepth 100000
theorem wr1 (m : Nat) (h : m ≤ 1000000000000) : Value.int .i64 (wrap64 ((m : Int) + 1)) = .int .i64 ((m + 1 : Nat) : Int) := by
  have : wrap64 ((m : Int) + 1) = ((m + 1 : Nat) : Int) := by unfold wrap64; omega
  rw [this]
theorem nw_str {xss : List (List S41)} {n : Nat} (h : ∀ l ∈ xss, ∀ d ∈ l, (keyT d).f2.size ≤ n) : ∀ d ∈ nwV xss, (keyT d).f2.size ≤ n := by
  intro d hd
  have h1 := (putsV_mem hd).1
  rw [List.mem_flatten] at h1
  obtain ⟨l, hl, hdl⟩ := h1
  exact h l (List.mem_reverse.1 hl) d hdl
theorem order_any {xss : List (List S41)} (h : ∀ l ∈ xss, OkL l) {d : S41} (hd : d ∈ nwV xss) : xss.any (fun l => hasV l (keyT d)) = true := by
  obtain ⟨l, hl, hh⟩ := order_two h hd
  exact List.any_eq_true.2 ⟨l, hl, hh⟩
theorem any_take {xss : List (List S41)} {f : List S41 → Bool} {j : Nat} (h : j < xss.length) : (xss.take (j + 1)).any f = ((xss.take j).any f || f xss[j]) := by
  rw [List.take_succ_eq_append_getElem h, List.any_append]
  simp
theorem hasV_T (A : Option Addr) (c : Nat) (l : List S41) (k : S37) (w : World) (b : Bool) (hb : hasV l k = b) (hC : Kd.C k41 w A l.length l) (hne : ∀ d ∈ l, d.f1.length ≠ 0) (hn : l.length ≤ 1099511627776) :
    Calls Try.prog 23 #[.slice A l.length c, .agg (cellsT k)] w fun e w' => e = .returned (.bool b) ∧ Below w.heap.size w w' := by
  subst hb
  exact has_T A c l k w hC hne (by omega)
theorem MergeOrder_walk (W : World) (A0 : Option Addr) (c0 : Nat) (l0 : List (List (S41))) (hc0 : l0.length ≤ c0) (hr0 : Kd.C (Kd.slice 41 k41) W A0 l0.length l0) (b0 : BL (BL B41) l0 1048576) :
    Calls Try.prog 5 #[.slice A0 l0.length c0] W fun e W' => e = .returned (.bool true) ∧ Below W.heap.size W W' := by
  have HI := Aside0.mk (inB_of b0)
  have HC := Aside0.mk hr0
  clear hr0 b0
  go_enter Try.func5, Try.ntmps5
  go_wp2_with fail
  refine (lives_T _).mono ?_
  rintro e w1 ⟨rfl, hb1⟩
  have B1 := Aside0.mk hb1
  clear hb1
  go_wp2_with fail
  refine (Early_T A0 c0 l0 w1 (Kd.C_below HC.out B1.out) hc0 (by have := HI.out.len; omega) (fun l hl => by have := HI.out.each l hl; omega)).mono ?_
  rintro e w2 ⟨hb2, A, c, rfl, hl2, hC2⟩
  have B2 := Aside0.mk (below_then B1.out B1.out.size hb2)
  have C2 := Aside0.mk hC2
  have L2 := Aside0.mk hl2
  have HS := Aside0.mk (inB_str HI.out)
  have HL := Aside0.mk (early_len l0)
  have HSU := Aside0.mk (early_sum l0)
  clear hb2 hC2 hl2
  generalize earlyV l0 = xss at *
  go_wp2_with fail
  refine (Newest_T A c xss w2 C2.out L2.out (by have := HL.out; omega) (by have := HSU.out; omega)).mono ?_
  rintro e w3 hN3
  have B3 := Aside0.mk (below_then B2.out B2.out.size hN3.below)
  by_cases hok : ∀ l ∈ xss, OkL l
  · obtain ⟨A3, c3, rfl, hl3, hC3⟩ := hN3.good hok
    have HOK := Aside0.mk hok
    have C3 := Aside0.mk hC3
    have L3 := Aside0.mk hl3
    have C2' := Aside0.mk (Kd.C_below C2.out hN3.below)
    have HLN := Aside0.mk (nwV_len xss)
    have HO1 := Aside0.mk (fun l (hl : l ∈ xss) d (hd : d ∈ l) => order_one hok hl hd)
    have HO2 := Aside0.mk (fun d (hd : d ∈ nwV xss) => order_any hok hd)
    have HNE := Aside0.mk (fun l (hl : l ∈ xss) => (hok l hl).1)
    have HOL : Aside0 (OkL (nwV xss)) := ⟨nwV_ok⟩
    have HSL := Aside0.mk (nw_str HS.out)
    clear hN3 hC3 hl3 hok C2
    generalize nwV xss = l at *
    have HLL : Aside0 (l.length ≤ 720) := ⟨by have := HLN.out; have := HSU.out; omega⟩
    go_wp2_with fail
    refine (RSorted_T A3 c3 l w3 C3.out L3.out HSL.out (by have := HLL.out; omega)).mono ?_
    rintro e w4 ⟨hb4, r, rfl, hr⟩
    obtain rfl : r = true := hr.2 HOL.out
    have C34 := Aside0.mk (Kd.C_below C3.out hb4)
    have C24 := Aside0.mk (Kd.C_below C2'.out hb4)
    have B4 := Aside0.mk (below_then B3.out B3.out.size hb4)
    clear hb4 hr C3 C2'
    go_wp2
    go_loopg [5] xss.length (fun kx a wr => ∃ i : Nat, a = .int .i64 i ∧ i ≤ xss.length ∧ xss.length - i ≤ kx ∧ Aside0 (Below w4.heap.size w4 wr))
    case atStart => exact ⟨0, rfl, Nat.zero_le _, by omega, ⟨Below.refl _ _⟩⟩
    case round =>
      obtain ⟨i, rfl, hi, hkx, HR⟩ := hrel
      by_cases hlt : i < xss.length
      · have hz0 : (0 : Int) ≤ (i : Int) := by omega
        have hz1 : (i : Int) < (xss.length : Int) := by omega
        obtain ⟨ad, Ai, ci, eA, x0, hci, hCl⟩ := C_list C24.out i hlt
        subst eA
        have HX0 := Aside0.mk x0
        have HCL := Aside0.mk hCl
        have HM := Aside0.mk (List.getElem_mem hlt)
        have HNL := Aside0.mk (HNE.out _ HM.out)
        have HO := Aside0.mk (HO1.out _ HM.out)
        have HLI : Aside0 (xss[i].length ≤ 720) := ⟨Nat.le_trans (len_flat (List.getElem_mem hlt)) HSU.out⟩
        clear x0 hCl
        generalize xss[i] = li at *
        go_wp2
        go_loopg [6] li.length (fun kx a wr => ∃ m : Nat, a = .int .i64 m ∧ m ≤ li.length ∧ li.length - m ≤ kx ∧ Aside0 (Below w4.heap.size w4 wr))
        case atStart => exact ⟨0, rfl, Nat.zero_le _, by omega, HR⟩
        case round =>
          clear HR
          obtain ⟨m, rfl, hm, hkx2, HR⟩ := hrel
          have y0 := pw_cell_below HR.out HX0.out
          by_cases hml : m < li.length
          · have hm0 : (0 : Int) ≤ (m : Int) := by omega
            have hm1 : (m : Int) < (li.length : Int) := by omega
            obtain ⟨al, Ar, cr, eA, x0, x1, hcr, hCr⟩ := at_T41 HCL.out (m : Int) hm0 hm1
            subst eA
            rw [rdD_at li m hml] at x0 x1 hcr hCr
            simp only [Int.toNat_natCast] at x0 x1
            have hrl : 0 < li[m].f1.length := Nat.pos_of_ne_zero (HNL.out _ (List.getElem_mem hml))
            obtain ⟨ak, eK, z0, z1, z2⟩ := at_T37 hCr (0 : Int) (by omega) (by omega)
            subst eK
            have hq : rd_T37 li[m].f1 0 = keyT li[m] := rfl
            rw [hq] at z0 z1 z2
            have hrz : (0 : Int) < (li[m].f1.length : Int) := by omega
            have hh := hasV_T A3 c3 l (keyT li[m]) wr true (HO.out _ (List.getElem_mem hml)) (Kd.C_below C34.out HR.out) HOL.out.1 (by have := HLL.out; omega)
            generalize keyT li[m] = q at *
            generalize li[m].f1.length = rl at *
            have y1 := pw_cell_below HR.out x1
            have y2 := pw_cell_below HR.out (show w4.cell? ak = some (.bool q.f0) by simpa [Addr.add] using z0)
            have y3 := pw_cell_below HR.out (show w4.cell? ⟨ak.block, ak.off + 1, none⟩ = some (.int .i64 q.f1) by simpa [Addr.add] using z1)
            have y4 := pw_cell_below HR.out (show w4.cell? ⟨ak.block, ak.off + 2, none⟩ = some (.string q.f2) by simpa [Addr.add] using z2)
            clear x0 x1 hcr hCr z0 z1 z2 hq hrl
            go_wp2_with fail
            refine hh.mono ?_
            rintro e w5 ⟨rfl, hb5⟩
            have HR5 := Aside0.mk (below_then HR.out HR.out.size hb5)
            clear hh hb5 y0 y1 y2 y3 y4
            go_wp2
            go_roundg (li.length - (m + 1))
            case measure => omega
            case rel =>
              have hb1_ := HLL.out
              have hb2_ := HL.out
              have hb3_ := HLI.out
              exact ⟨m + 1, wr1 _ (by omega), by omega, by omega, HR5⟩
          · obtain rfl : li.length = m := by omega
            go_wp2
            go_roundg (xss.length - (i + 1))
            case measure => omega
            case rel =>
              have hb1_ := HLL.out
              have hb2_ := HL.out
              exact ⟨i + 1, wr1 _ (by omega), by omega, by omega, HR⟩
      · obtain rfl : xss.length = i := by omega
        go_wp2
        go_loopg [7] l.length (fun kx a wr => ∃ i : Nat, a = .int .i64 i ∧ i ≤ l.length ∧ l.length - i ≤ kx ∧ Aside0 (Below w4.heap.size w4 wr))
        case atStart => exact ⟨0, rfl, Nat.zero_le _, by omega, HR⟩
        case round =>
          clear HR
          obtain ⟨m, rfl, hm, hkx2, HR⟩ := hrel
          by_cases hml : m < l.length
          · have hm0 : (0 : Int) ≤ (m : Int) := by omega
            have hm1 : (m : Int) < (l.length : Int) := by omega
            obtain ⟨al, Ar, cr, eA, x0, x1, hcr, hCr⟩ := at_T41 C34.out (m : Int) hm0 hm1
            subst eA
            rw [rdD_at l m hml] at x0 x1 hcr hCr
            simp only [Int.toNat_natCast] at x0 x1
            have hrl : 0 < l[m].f1.length := Nat.pos_of_ne_zero (HOL.out.1 _ (List.getElem_mem hml))
            obtain ⟨ak, eK, z0, z1, z2⟩ := at_T37 hCr (0 : Int) (by omega) (by omega)
            subst eK
            have hq : rd_T37 l[m].f1 0 = keyT l[m] := rfl
            rw [hq] at z0 z1 z2
            have hrz : (0 : Int) < (l[m].f1.length : Int) := by omega
            have HOA := Aside0.mk (HO2.out _ (List.getElem_mem hml))
            generalize keyT l[m] = q at *
            generalize l[m].f1.length = rl at *
            have Z1 := Aside0.mk x1
            have Z2 := Aside0.mk (show w4.cell? ak = some (.bool q.f0) by simpa [Addr.add] using z0)
            have Z3 := Aside0.mk (show w4.cell? ⟨ak.block, ak.off + 1, none⟩ = some (.int .i64 q.f1) by simpa [Addr.add] using z1)
            have Z4 := Aside0.mk (show w4.cell? ⟨ak.block, ak.off + 2, none⟩ = some (.string q.f2) by simpa [Addr.add] using z2)
            clear x0 x1 hcr hCr z0 z1 z2 hq hrl
            go_wp2
            go_loopg [8, 9] xss.length (fun kx a b wr => ∃ (j : Nat) (r : Bool), a = .bool r ∧ b = .int .i64 j ∧ j ≤ xss.length ∧ xss.length - j ≤ kx ∧ Aside0 (r = (xss.take j).any (fun li => hasV li q)) ∧ Aside0 (Below w4.heap.size w4 wr))
            case atStart => exact ⟨0, false, rfl, rfl, Nat.zero_le _, by omega, ⟨rfl⟩, HR⟩
            case round =>
              clear HR
              obtain ⟨j, r, rfl, rfl, hj, hkx3, HRR, HR⟩ := hrel
              by_cases hjl : j < xss.length
              · have hj0 : (0 : Int) ≤ (j : Int) := by omega
                have hj1 : (j : Int) < (xss.length : Int) := by omega
                obtain ⟨ad, Ai, ci, eA, x0, hci, hCl⟩ := C_list C24.out j hjl
                subst eA
                have HM := Aside0.mk (List.getElem_mem hjl)
                have HTK := Aside0.mk (any_take (f := fun li => hasV li q) hjl)
                have HNL := Aside0.mk (HNE.out _ HM.out)
                have hlj : xss[j].length ≤ 720 := Nat.le_trans (len_flat (List.getElem_mem hjl)) HSU.out
                generalize xss[j] = li at *
                obtain ⟨hv, hhv⟩ : ∃ hv, hasV li q = hv := ⟨_, rfl⟩
                have hcall : ∀ s : SomeW wr, Calls Try.prog 23 #[.slice Ai li.length ci, .agg (cellsT q)] s.W fun e w' => e = .returned (.bool hv) ∧ Below s.W.heap.size s.W w' := fun s => hasV_T Ai ci li q s.W hv hhv (Kd.C_below (Kd.C_below hCl HR.out) s.h) HNL.out (by omega)
                have HHV := Aside0.mk hhv
                have P0 : ∀ s : SomeW wr, s.W.cell? (ad.add j) = some (.slice Ai li.length ci) := fun s => cell_some (pw_cell_below HR.out x0) s
                have P1 : ∀ s : SomeW wr, s.W.cell? ⟨(al.add (m * 2)).block, (al.add (m * 2)).off + 1, none⟩ = some (.slice (some ak) rl cr) := fun s => cell_some (pw_cell_below HR.out Z1.out) s
                have P2 : ∀ s : SomeW wr, s.W.cell? ak = some (.bool q.f0) := fun s => cell_some (pw_cell_below HR.out Z2.out) s
                have P3 : ∀ s : SomeW wr, s.W.cell? ⟨ak.block, ak.off + 1, none⟩ = some (.int .i64 q.f1) := fun s => cell_some (pw_cell_below HR.out Z3.out) s
                have P4 : ∀ s : SomeW wr, s.W.cell? ⟨ak.block, ak.off + 2, none⟩ = some (.string q.f2) := fun s => cell_some (pw_cell_below HR.out Z4.out) s
                clear x0 hCl hhv hlj
                cases r with
                | true =>
                  have HN : Aside0 (true = (xss.take (j + 1)).any (fun li => hasV li q)) := ⟨by rw [HTK.out, ← HRR.out]; rfl⟩
                  go_wp2
                  refine wp_region_quiet_some mixed_T (by kernel_rfl) ?_
                  repeat (go_big_quiet_step (fail))
                  refine wpQuiet_nil ?_
                  intro w5 hw'
                  obtain ⟨p_, hp_⟩ := hw'
                  have hb5 : Below wr.heap.size wr w5 := by rw [hp_]; exact p_.h
                  clear hp_ p_ P0 P1 P2 P3 P4 hcall
                  have HR5 := Aside0.mk (below_then HR.out HR.out.size hb5)
                  clear hb5
                  go_wp2
                  go_roundg (xss.length - (j + 1))
                  case measure => omega
                  case rel =>
                    have hb1_ := HLL.out
                    have hb2_ := HL.out
                    exact ⟨j + 1, true, rfl, wr1 _ (by omega), by omega, by omega, HN, HR5⟩
                | false =>
                  have HN : Aside0 (hv = (xss.take (j + 1)).any (fun li => hasV li q)) := ⟨by rw [HTK.out, ← HRR.out, HHV.out]; rfl⟩
                  go_wp2
                  refine wp_region_quiet_some mixed_T (by kernel_rfl) ?_
                  repeat (go_big_quiet_step (first | (go_at_call 23; refine Calls.below_some (hcall _))))
                  refine wpQuiet_nil ?_
                  intro w5 hw'
                  obtain ⟨p_, hp_⟩ := hw'
                  have hb5 : Below wr.heap.size wr w5 := by rw [hp_]; exact p_.h
                  clear hp_ p_ P0 P1 P2 P3 P4 hcall
                  have HR5 := Aside0.mk (below_then HR.out HR.out.size hb5)
                  clear hb5
                  go_wp2
                  go_roundg (xss.length - (j + 1))
                  case measure => omega
                  case rel =>
                    have hb1_ := HLL.out
                    have hb2_ := HL.out
                    exact ⟨j + 1, hv, rfl, wr1 _ (by omega), by omega, by omega, HN, HR5⟩
              · obtain rfl : xss.length = j := by omega
                obtain rfl : r = true := by rw [HRR.out, List.take_length]; exact HOA.out
                go_wp2
                go_roundg (l.length - (m + 1))
                case measure => omega
                case rel =>
                  have hb1_ := HLL.out
                  have hb2_ := HL.out
                  exact ⟨m + 1, wr1 _ (by omega), by omega, by omega, HR⟩
          · obtain rfl : l.length = m := by omega
            go_wp2
            go_ret
            exact ⟨rfl, below_then B4.out B4.out.size HR.out⟩
  · have hbd := hN3.bad hok
    subst hbd
    clear hN3 hok
    go_wp2
    go_ret
    exact ⟨rfl, B3.out⟩
end Go.Proofs.Ythlelhndmnkmjaa.Pr
