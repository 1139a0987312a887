/- MergeParts' walk -/
import Derived.Test.YthlelhndmnkmjaaMiC
import Derived.Test.YthlelhndmnkmjaaRdk
import Derived.Shelf.AbstractIn
namespace Go.Proofs.Ythlelhndmnkmjaa.Pr
open Go.RowKit Go.Proofs.Ythlelhndmnkmjaa.Brid Go.Proofs.YthlelhndmnkmjaaW.PrintWords Go.Proofs.YthlelhndmnkmjaaW.PrintLast Go.Proofs.YthlelhndmnkmjaaW.PrintMore
set_option linter.unusedVariables false
set_option linter.unusedSimpArgs false
set_option maxHeartbeats 4000000
set_option maxRecDepth 100000
theorem chunkL_flat (k : Nat) (l : List S41) (hk : 0 < k) : ∀ (f i : Nat), l.length ≤ f + i → (chunkL k l f i).flatten = l.drop i := by
  intro f
  induction f with
  | zero => intro i h; rw [List.drop_of_length_le (by omega)]; rfl
  | succ f ih =>
    intro i h
    rw [chunkL]
    split
    · rw [List.flatten_cons, ih (i + k) (by omega), ← List.drop_drop, List.take_append_drop]
    · rw [List.drop_of_length_le (by omega)]; rfl
theorem chunkL_each (k : Nat) (l : List S41) (hk : 0 < k) : ∀ (f i : Nat), ∀ x ∈ chunkL k l f i, x.length ≠ 0 ∧ x.length ≤ l.length := by
  intro f
  induction f with
  | zero => intro i x hx; cases hx
  | succ f ih =>
    intro i x hx
    rw [chunkL] at hx
    split at hx
    · rcases List.mem_cons.1 hx with rfl | hx
      · rw [List.length_take, List.length_drop]; omega
      · exact ih _ x hx
    · cases hx
theorem splitV_kpos {l : List S41} (n : Int) (h : 0 < l.length) : 0 < (if n < 1 then l.length else n.toNat) := by split <;> omega
theorem splitV_flat (l : List S41) (n : Int) : (splitV l n).flatten = l := by
  rcases Nat.eq_zero_or_pos l.length with h | h
  · have : l = [] := List.length_eq_zero_iff.1 h
    subst this; rfl
  · have := chunkL_flat _ l (splitV_kpos n h) l.length 0 (by omega)
    rw [List.drop_zero] at this
    exact this
theorem splitV_each (l : List S41) (n : Int) : ∀ x ∈ splitV l n, x.length ≠ 0 ∧ x.length ≤ l.length := by
  rcases Nat.eq_zero_or_pos l.length with h | h
  · have : l = [] := List.length_eq_zero_iff.1 h
    subst this
    intro x hx; cases hx
  · exact chunkL_each _ l (splitV_kpos n h) l.length 0
theorem splitV_cnt (l : List S41) (n : Int) : (splitV l n).length ≤ l.length := by
  have : ∀ (k : Nat) (f i : Nat), (chunkL k l f i).length ≤ f := by
    intro k f
    induction f with
    | zero => intro i; exact Nat.le_refl _
    | succ f ih =>
      intro i
      rw [chunkL]
      split
      · rw [List.length_cons]; have := ih (i + k); omega
      · simp
  exact this _ _ _
theorem take_flat {xss : List (List S41)} {i : Nat} (h : i < xss.length) : (xss.take (i + 1)).flatten = (xss.take i).flatten ++ xss[i] := by
  rw [List.take_succ_eq_append_getElem h, List.flatten_append]
  simp
theorem take_flat_len (xss : List (List S41)) (i : Nat) : (xss.take i).flatten.length ≤ xss.flatten.length := by
  conv => rhs; rw [← List.take_append_drop i xss, List.flatten_append, List.length_append]
  omega
theorem i64_wf {a : Int} (h : (Lit.int .i64 a).wf = true) : -9223372036854775808 ≤ a ∧ a ≤ 9223372036854775807 := by
  have h1 : (decide (IntKind.i64.min ≤ a) && decide (a ≤ IntKind.i64.max)) = true := h
  rw [Bool.and_eq_true, decide_eq_true_eq, decide_eq_true_eq] at h1
  exact h1
theorem MergeParts_walk (W : World) (A0 : Option Addr) (c0 : Nat) (l0 : List (S41)) (hc0 : l0.length ≤ c0) (hr0 : Kd.C k41 W A0 l0.length l0) (b0 : BL B41 l0 1048576) (a1 : Int) (b1 : (Lit.int .i64 a1).wf = true) :
    Calls Try.prog 4 #[.slice A0 l0.length c0, .int .i64 a1] W fun e W' => e = .returned (.bool true) ∧ Below W.heap.size W W' := by
  have HLN : Aside0 (l0.length ≤ 1048576) := ⟨b0.1⟩
  have HA := Aside0.mk (i64_wf b1)
  have HC := Aside0.mk hr0
  clear hr0 b0 b1
  go_enter Try.func4, Try.ntmps4
  go_wp2_with fail
  refine (lives_T _).mono ?_
  rintro e w1 ⟨rfl, hb1⟩
  have B1 := Aside0.mk hb1
  clear hb1
  go_wp2_with fail
  refine (Split_T A0 c0 l0 a1 w1 (Kd.C_below HC.out B1.out) hc0 (by have := HLN.out; omega) HA.out.2).mono ?_
  rintro e w2 ⟨hb2, A2, c2, rfl, hl2, hC2⟩
  have B2 := Aside0.mk (below_then B1.out B1.out.size hb2)
  have C2 := Aside0.mk hC2
  have L2 := Aside0.mk hl2
  clear hb2 hC2 hl2
  go_wp2_with fail
  refine (RSplit_T A0 c0 l0 a1 w2 (Kd.C_below HC.out B2.out) hc0 HLN.out HA.out.1 HA.out.2).mono ?_
  rintro e w3 ⟨hb3, A3, c3, rfl, hl3, hC3⟩
  have B3 := Aside0.mk (below_then B2.out B2.out.size hb3)
  have C3 := Aside0.mk hC3
  have L3 := Aside0.mk hl3
  have C23 := Aside0.mk (Kd.C_below C2.out hb3)
  have HFL := Aside0.mk (splitV_flat l0 a1)
  have HEA := Aside0.mk (splitV_each l0 a1)
  have HCN := Aside0.mk (splitV_cnt l0 a1)
  clear hb3 hC3 hl3 C2
  generalize splitV l0 a1 = xss at *
  go_wp2_with fail
  refine (Live_T A0 c0 l0 w3 (Kd.C_below HC.out B3.out) hc0 (by have := HLN.out; omega)).mono ?_
  rintro e w4 ⟨hb4, A4, c4, rfl, hl4, hC4⟩
  have B4 := Aside0.mk (below_then B3.out B3.out.size hb4)
  have C4 := Aside0.mk hC4
  have L4 := Aside0.mk hl4
  have D2 := Aside0.mk (Kd.C_below C23.out hb4)
  have D3 := Aside0.mk (Kd.C_below C3.out hb4)
  have HLV := Aside0.mk (live_sub l0).length_le
  clear hb4 hC4 hl4 C23 C3
  go_wp2_with fail
  refine (RLive_T A0 c0 l0 w4 (Kd.C_below HC.out B4.out) hc0 (by have := HLN.out; omega)).mono ?_
  rintro e w5 ⟨hb5, A5, c5, rfl, hl5, hC5⟩
  have B5 := Aside0.mk (below_then B4.out B4.out.size hb5)
  have C5 := Aside0.mk hC5
  have L5 := Aside0.mk hl5
  have C45 := Aside0.mk (Kd.C_below C4.out hb5)
  have E2 := Aside0.mk (Kd.C_below D2.out hb5)
  have E3 := Aside0.mk (Kd.C_below D3.out hb5)
  clear hb5 hC5 hl5 C4 D2 D3
  go_wp2_with fail
  refine (SameAll_T A4 c4 (liveV l0) A5 c5 w5 C45.out L4.out C5.out L5.out (by have := HLV.out; have := HLN.out; omega)).mono ?_
  rintro e w6 ⟨rfl, hb6⟩
  have B6 := Aside0.mk (below_then B5.out B5.out.size hb6)
  have F2 := Aside0.mk (Kd.C_below E2.out hb6)
  have F3 := Aside0.mk (Kd.C_below E3.out hb6)
  have F0 := Aside0.mk (Kd.C_below HC.out B6.out)
  clear hb6 E2 E3 C45 C5
  go_wp2
  go_loopg [7, 8] xss.length (fun kx a b wr => ∃ i : Nat, b = .int .i64 i ∧ i ≤ xss.length ∧ xss.length - i ≤ kx ∧ Aside0 (Below w6.heap.size w6 wr) ∧ Aside0 (Kd.R (oldK k41 w6) 41 wr w6.heap.size (fun _ => True) a (xss.take i).flatten))
  case atStart => exact ⟨0, rfl, Nat.zero_le _, by omega, ⟨Below.refl _ _⟩, ⟨Kd.R_nil _ _ _ _ _⟩⟩
  case round =>
    obtain ⟨i, rfl, hi, hkx, HR, HO⟩ := hrel
    by_cases hlt : i < xss.length
    · have hz0 : (0 : Int) ≤ (i : Int) := by omega
      have hz1 : (i : Int) < (xss.length : Int) := by omega
      obtain ⟨ad, Ai, ci, eA, x0, hci, hCi⟩ := C_list F2.out i hlt
      obtain ⟨ad', Aj, cj, eA', x0', hcj, hCj⟩ := C_list F3.out i hlt
      subst eA eA'
      have HM := Aside0.mk (HEA.out _ (List.getElem_mem hlt))
      have HTK := Aside0.mk (take_flat hlt)
      have HTL := Aside0.mk (take_flat_len xss i)
      have HTL2 := Aside0.mk (take_flat_len xss (i + 1))
      generalize xss[i] = li at *
      have hlz : ((li.length : Int) == 0) = false := beq_eq_false_iff_ne.2 (by have := HM.out.1; omega)
      have hcall : ∀ s : SomeW wr, Calls Try.prog 17 #[.slice Ai li.length ci, .slice Aj li.length cj] s.W fun e w' => e = .returned (.bool true) ∧ Below s.W.heap.size s.W w' := fun s => SameAll_T Ai ci li Aj cj s.W (Kd.C_below (Kd.C_below hCi HR.out) s.h) hci (Kd.C_below (Kd.C_below hCj HR.out) s.h) hcj (by have := HM.out; have := HLN.out; omega)
      have P0 : ∀ s : SomeW wr, s.W.cell? (ad.add i) = some (.slice Ai li.length ci) := fun s => cell_some (pw_cell_below HR.out x0) s
      have P1 : ∀ s : SomeW wr, s.W.cell? (ad'.add i) = some (.slice Aj li.length cj) := fun s => cell_some (pw_cell_below HR.out x0') s
      have X0 := Aside0.mk x0
      have HCI := Aside0.mk hCi
      clear x0 x0' hCi hCj hci hcj
      go_wp2
      refine wp_region_quiet_some mixed_T (by kernel_rfl) ?_
      repeat (go_big_quiet_step (first | (go_at_call 17; refine Calls.below_some (hcall _))))
      refine wpQuiet_nil ?_
      intro w7 hw'
      obtain ⟨p_, hp_⟩ := hw'
      have hb7 : Below wr.heap.size wr w7 := by rw [hp_]; exact p_.h
      clear hp_ p_ P0 P1 hcall
      have HR7 := Aside0.mk (below_then HR.out HR.out.size hb7)
      have HO7 := Aside0.mk (Kd.R_below HO.out hb7)
      have y0 := pw_cell_below HR7.out X0.out
      have HFL2 := Aside0.mk (congrArg List.length HFL.out)
      clear hb7 HO HR
      go_wp2_with ((with_reducible refine gate_builtin (b := .append) (xs := #[.tmp 54, .tmp 58]) rfl ?_); at_builtin; refine show_goal ?_)
      refine Aside0.mk ?_
      refine Kd.R_append_rows (oldK k41 w6) (w0 := w6) (Rr := (oldK k41 w6).K w6) w6.heap.size ?_ (.tmp 54) (.tmp 58) 25 41 (.agg #[(.bool false), (.slice none 0 0)]) 32 ?_ ?_ ?_ ?_ ?_ ?_ u7 (xss.take i).flatten li Ai li.length ci (fun _ => True) (fun _ => False) ?_ ?_ ?_ ?_ ?_ ?_ ?_ ?_ ?_ ?_ ?_
      · rfl
      · rfl
      · exact Try.underlying25
      · exact info41
      · rfl
      · exact Nat.zero_lt_succ 1
      · exact Nat.zero_lt_succ 31
      · rfl
      · rfl
      · exact HO7.out
      · exact ReadsRow.imp_ HCI.out HR7.out (fun _ _ h => h)
      · exact fun _ _ h => h
      · exact fun _ h => h.elim
      · exact fun _ _ => trivial
      · exact HR7.out
      · exact HR7.out.size
      · have h1 := HTL2.out
        rw [HTK.out, List.length_append] at h1
        have h2 := HFL2.out
        have h3 := HLN.out
        omega
      intro v1 w8 hR1 hb1 hg1 hat1
      have HR8 := Aside0.mk hb1
      have HO8 : Aside0 (Kd.R (oldK k41 w6) 41 w8 w6.heap.size (fun _ => True) v1 (xss.take (i + 1)).flatten) := ⟨by rw [HTK.out]; exact hR1⟩
      clear hR1 hb1 hg1 hat1
      go_wp2
      go_roundg (xss.length - (i + 1))
      case measure => omega
      case rel =>
        have h1_ := HCN.out
        have h2_ := HLN.out
        exact ⟨i + 1, wr2 _ (by omega), by omega, by omega, HR8, HO8⟩
    · obtain rfl : xss.length = i := by omega
      obtain ⟨Aa, ca, hv, hca, hCa⟩ := Kd.R_reads HO.out
      rw [List.take_length, HFL.out] at hv hca hCa
      subst hv
      have HCA := Aside0.mk (oldK_C hCa HR.out)
      have HCB := Aside0.mk hca
      have B7 := Aside0.mk (below_then B6.out B6.out.size HR.out)
      clear hCa hca HO
      go_wp2_with fail
      refine (SameAll_T Aa ca l0 A0 c0 wr HCA.out HCB.out (Kd.C_below F0.out HR.out) hc0 (by have := HLN.out; omega)).mono ?_
      rintro e w8 ⟨rfl, hb8⟩
      have B8 := Aside0.mk (below_then B7.out B7.out.size hb8)
      clear hb8
      go_wp2
      go_ret
      exact ⟨rfl, B8.out⟩
end Go.Proofs.Ythlelhndmnkmjaa.Pr
