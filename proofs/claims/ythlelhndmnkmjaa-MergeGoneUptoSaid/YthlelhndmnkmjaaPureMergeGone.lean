/- MergeGone's walk -/
import Derived.Test.YthlelhndmnkmjaaMiB
import Derived.Test.YthlelhndmnkmjaaRdk
import Derived.Shelf.AbstractIn
namespace Go.Proofs.Ythlelhndmnkmjaa.Pr
open Go.RowKit Go.Proofs.Ythlelhndmnkmjaa.Brid Go.Proofs.YthlelhndmnkmjaaW.PrintWords Go.Proofs.YthlelhndmnkmjaaW.PrintLast Go.Proofs.YthlelhndmnkmjaaW.PrintMore
set_option linter.unusedVariables false
set_option linter.unusedSimpArgs false
set_option maxHeartbeats 4000000
set_option maxRecDepth 100000
theorem MergeGone_walk (W : World) (A0 : Option Addr) (c0 : Nat) (l0 : List (List (S41))) (hc0 : l0.length ≤ c0) (hr0 : Kd.C (Kd.slice 41 k41) W A0 l0.length l0) (b0 : BL (BL B41) l0 1048576) :
    Calls Try.prog 7 #[.slice A0 l0.length c0] W fun e W' => e = .returned (.bool true) ∧ Below W.heap.size W W' := by
  have HI := Aside0.mk (inB_of b0)
  have HC := Aside0.mk hr0
  clear hr0 b0
  by_cases hl0 : l0.length = 0
  · have hz : ((l0.length : Int) == 0) = true := by simp [hl0]
    clear hl0
    go_enter Try.func7, Try.ntmps7
    go_wp2_with fail
    refine (lives_T _).mono ?_
    rintro e w1 ⟨rfl, hb1⟩
    have B1 := Aside0.mk hb1
    clear hb1
    go_wp2_with fail
    refine (lives_T _).mono ?_
    rintro e w2 ⟨rfl, hb2⟩
    have B2 := Aside0.mk (below_then B1.out B1.out.size hb2)
    clear hb2
    go_wp2
    go_ret
    exact ⟨rfl, B2.out⟩
  have hz : ((l0.length : Int) == 0) = false := beq_eq_false_iff_ne.2 (by omega)
  have HNE : Aside0 (earlyV l0 ≠ []) := ⟨fun h => by
    have h1 : (earlyV l0).length = 0 := by rw [h]; rfl
    simp only [earlyV, List.length_map, List.length_take] at h1
    omega⟩
  clear hl0
  go_enter Try.func7, Try.ntmps7
  go_wp2_with fail
  refine (lives_T _).mono ?_
  rintro e w1 ⟨rfl, hb1⟩
  have B1 := Aside0.mk hb1
  clear hb1
  go_wp2_with fail
  refine (Early_T A0 c0 l0 w1 (Kd.C_below HC.out B1.out) hc0 (by have := HI.out.len; omega) (fun l hl => by have := HI.out.each l hl; omega)).mono ?_
  rintro e w2 ⟨hb2, A, c, rfl, hl2, hC2⟩
  have B2 := Aside0.mk (below_then B1.out B1.out.size hb2)
  have C2 := Aside0.mk hC2
  have L2 := Aside0.mk hl2
  have HL := Aside0.mk (early_len l0)
  have HSU := Aside0.mk (early_sum l0)
  have HEA := Aside0.mk (fun l (hl : l ∈ earlyV l0) => early_each hl)
  clear hb2 hC2 hl2 hz
  generalize earlyV l0 = xss at *
  go_wp2_with fail
  refine (Newest_T A c xss w2 C2.out L2.out (by have := HL.out; omega) (by have := HSU.out; omega)).mono ?_
  rintro e w3 hN3
  have B3 := Aside0.mk (below_then B2.out B2.out.size hN3.below)
  by_cases hok : ∀ l ∈ xss, OkL l
  · obtain ⟨A3, c3, rfl, hl3, hC3⟩ := hN3.good hok
    have HOK := Aside0.mk hok
    have C3 := Aside0.mk hC3
    have L3 := Aside0.mk hl3
    have C2' := Aside0.mk (Kd.C_below C2.out hN3.below)
    clear hN3 hC3 hl3 hok C2
    obtain ⟨xs, l, rfl⟩ : ∃ xs l, xss = xs ++ [l] := ⟨_, _, (List.dropLast_concat_getLast HNE.out).symm⟩
    obtain ⟨m, hm⟩ : ∃ m, m = xs.length := ⟨_, rfl⟩
    have hlen : (xs ++ [l]).length = m + 1 := by rw [hm]; simp
    have hCt := Kd.C_take (m := m) C2'.out (by rw [hlen]; omega)
    have htk : (xs ++ [l]).take m = xs := by rw [hm]; simp
    rw [htk, ← hm] at hCt
    obtain ⟨vs, hCv, hV⟩ := C_vals hCt
    have HTake : Aside0 (∀ w', Below w3.heap.size w3 w' → Kd.C valK w' A m vs) := ⟨fun w' hb => Kd.C_below hCv hb⟩
    have HV := Aside0.mk hV
    obtain ⟨ad, A1, c1, eA, x0, hc1, hCl⟩ := at_L6 C2'.out (m : Int) (by omega) (by rw [hlen]; omega)
    subst eA
    have hrl : rd_L6 (xs ++ [l]) (m : Int) = l := by simp [rd_L6, hm]
    rw [hrl] at x0 hc1 hCl
    simp only [Int.toNat_natCast] at x0
    have X0 := Aside0.mk x0
    have HC1 := Aside0.mk hc1
    have HCL := Aside0.mk hCl
    have HAD : Aside0 ((ad.add m).block < w3.heap.size) := ⟨World.block_lt_of_cell? _ _ x0⟩
    have HM : Aside0 (m ≤ 1024) := ⟨by have := HL.out; rw [hlen] at this; omega⟩
    have HLX : Aside0 (xs.length + 1 ≤ 1024) := ⟨by have := HL.out; rw [hlen] at this; omega⟩
    have HLL : Aside0 (l.length ≤ 1099511627776) := ⟨by have := HEA.out l (by simp); omega⟩
    have HSX : Aside0 (sumLen (xs ++ [liveV l]) ≤ 1099511627776) := ⟨by have := sum_gone xs l; have := HSU.out; omega⟩
    have HGK := Aside0.mk (gone_ok HOK.out)
    have HNW := Aside0.mk (nw_gone HOK.out)
    have HLN := Aside0.mk (nwV_len (xs ++ [l]))
    have HLM := Aside0.mk (nwV_len (xs ++ [liveV l]))
    have HVL := Aside0.mk (hV.1.trans hm.symm)
    rw [hlen]
    have h0m : (0 : Int) ≤ (m : Int) := by omega
    have hmm : (m : Int) < (m : Int) + 1 := by omega
    have hmc : m ≤ c := by have := L2.out; rw [hlen] at this; omega
    have HW : Aside0 (wrap64 (m : Int) = (m : Int)) := ⟨by have := HM.out; unfold wrap64; omega⟩
    clear hCt htk hCv hV hrl hc1 hCl hlen hm x0 C2'
    generalize w3 = wS at *
    go_wp2
    rw [HW.out]
    refine start_ (n := 17) (S := fun w' => w'.cell? (ad.add m) = some (.slice A1 l.length c1) ∧ Aside0 (Below wS.heap.size wS w')) (ds := []) #[false, false, false, false, false, false, false, false, false, false, false, false, false, false, false, false, false] (by kernel_rfl) rfl rfl ⟨(by simpa using X0.out), ⟨below_drew1 (Below.refl _ _)⟩⟩ (fun hHeld => ?_)
    refine pure_ (i := 0) (N := some 29) (v := ?_) (a' := ?_) #[true, false, false, false, false, false, false, false, false, false, false, false, false, false, false, false, false] rfl rfl (by kernel_rfl) (fun _ _ _ h => h) (Or.inl ⟨by rfl, ?_⟩) ?_ ?_
    rotate_left
    · intro w'
      go_simp
      with_reducible rfl
    rotate_left
    · simp only [Act.put, List.setIfInBounds_toArray, List.set_cons_zero, List.set_cons_succ, i64_w, i32_w]
      rfl
    refine pure_ (i := 1) (N := some 30) (v := ?_) (a' := ?_) #[true, true, false, false, false, false, false, false, false, false, false, false, false, false, false, false, false] rfl rfl (by kernel_rfl) (fun _ _ _ h => h) (Or.inl ⟨by rfl, ?_⟩) ?_ ?_
    rotate_left
    · intro w'
      go_simp
      with_reducible rfl
    rotate_left
    · simp only [Act.put, List.setIfInBounds_toArray, List.set_cons_zero, List.set_cons_succ, i64_w, i32_w]
      rfl
    refine pure_ (i := 2) (N := some 31) (v := ?_) (a' := ?_) #[true, true, true, false, false, false, false, false, false, false, false, false, false, false, false, false, false] rfl rfl (by kernel_rfl) (fun _ _ _ h => h) (Or.inl ⟨by rfl, ?_⟩) ?_ ?_
    rotate_left
    · intro w'
      go_simp
      with_reducible rfl
    rotate_left
    · simp only [Act.put, List.setIfInBounds_toArray, List.set_cons_zero, List.set_cons_succ, i64_w, i32_w]
      rfl
    refine pure_ (i := 4) (N := some 33) (v := ?_) (a' := ?_) #[true, true, true, false, true, false, false, false, false, false, false, false, false, false, false, false, false] rfl rfl (by kernel_rfl) (fun _ _ _ h => h) (Or.inl ⟨by rfl, ?_⟩) ?_ ?_
    rotate_left
    · intro w'
      go_simp
      with_reducible rfl
    rotate_left
    · simp only [Act.put, List.setIfInBounds_toArray, List.set_cons_zero, List.set_cons_succ, i64_w, i32_w]
      rfl
    refine pure_ (i := 5) (N := some 34) (v := ?_) (a' := ?_) #[true, true, true, false, true, true, false, false, false, false, false, false, false, false, false, false, false] rfl rfl (by kernel_rfl) (fun _ _ _ h => h) (Or.inl ⟨by rfl, ?_⟩) ?_ ?_
    rotate_left
    · intro w'
      go_simp
      with_reducible rfl
    rotate_left
    · simp only [Act.put, List.setIfInBounds_toArray, List.set_cons_zero, List.set_cons_succ, i64_w, i32_w]
      rfl
    refine pure_ (i := 6) (N := some 35) (v := ?_) (a' := ?_) #[true, true, true, false, true, true, true, false, false, false, false, false, false, false, false, false, false] rfl rfl (by kernel_rfl) (fun _ _ _ h => h) (Or.inl ⟨by rfl, ?_⟩) ?_ ?_
    rotate_left
    · intro w'
      go_simp
      with_reducible rfl
    rotate_left
    · simp only [Act.put, List.setIfInBounds_toArray, List.set_cons_zero, List.set_cons_succ, i64_w, i32_w]
      rfl
    refine take_ (i := 7) (N := some 36) (v := ?_) (a' := ?_) #[true, true, true, false, true, true, true, true, false, false, false, false, false, false, false, false, false] rfl rfl (by kernel_rfl) (fun _ _ _ h => h) (Or.inl ⟨by rfl, ?_⟩) hHeld ?_ ?_
    rotate_left
    · rintro w' ⟨s0, s1⟩
      go_simp
      with_reducible rfl
    rotate_left
    · simp only [Act.put, List.setIfInBounds_toArray, List.set_cons_zero, List.set_cons_succ, i64_w, i32_w]
      rfl
    refine one_ (i := 3) (N := some 32) #[true, true, true, true, true, true, true, true, false, false, false, false, false, false, false, false, false] rfl rfl (by kernel_rfl) (by decide) (fun K hK => ?_)
    refine Kd.R_append_rows_step valK (w0 := wS) wS.heap.size (by rfl) (.const (.slice none 0 0)) (.tmp 31) 22 25 (.slice none 0 0) 24 rfl Try.underlying22 info25 rfl (show 0 < 1 by decide) (by omega) (.slice none 0 0) ([] : List Value) vs _ _ _ (fun _ => True) (fun _ => False) rfl rfl ?aO ?aR (fun _ _ h => h) (fun _ h => h.elim) (fun _ _ => trivial) hHeld.2.out hHeld.2.out.size ?aL ?_
    (case aO => exact Kd.R_nil _ _ _ _ _)
    (case aR => exact HTake.out _ hHeld.2.out)
    (case aL => have := HM.out; simp only [List.length_nil]; omega)
    intro v1 w4 ho hb hg hat
    have HS0_ := cell_grown hg hHeld.1 (by simp [Value.ownBlock])
    have HO4 := Aside0.mk ho
    clear ho hg hat
    refine hK.out _ _ ⟨HS0_, ⟨hb⟩⟩ (fun hHeld => ?_)
    clear hK K
    refine norm_ (a' := ?_) ?_ ?_
    rotate_left
    · show Act.put _ (some 32) _ = _
      simp only [Act.put, List.setIfInBounds_toArray, List.set_cons_zero, List.set_cons_succ, i64_w, i32_w]
      rfl
    refine one_ (i := 8) (N := some 37) #[true, true, true, true, true, true, true, true, true, false, false, false, false, false, false, false, false] rfl rfl (by kernel_rfl) (by decide) (fun K hK => ?_)
    refine goes_ Try.func20 (by kernel_rfl) rfl #[.slice A1 l.length c1] (by rfl) rfl rfl (by simp only [List.map_toArray, List.map_cons, List.map_nil]; rfl) ?_
    with_reducible refine (Live_G wS A1 c1 l w4 hHeld.2.out (C_old HCL.out hHeld.2.out) HC1.out HLL.out).mono ?_
    rintro e w5 ⟨hbl, A4, c4, rfl, hR5⟩
    refine ⟨_, rfl, ?_⟩
    have HS0_ := (Below.cell hbl (World.block_lt_of_cell? _ _ hHeld.1)).trans hHeld.1
    have HO5 := Aside0.mk (Kd.R_below HO4.out hbl)
    have HR5 := Aside0.mk (And.intro hR5 (fun k hk => (old_lt HO4.out k hk).2))
    clear hR5
    refine hK.out _ _ ⟨HS0_, ⟨below_then hHeld.2.out hHeld.2.out.size hbl⟩⟩ (fun hHeld => ?_)
    clear hK K
    refine norm_ (a' := ?_) ?_ ?_
    rotate_left
    · show Act.put _ (some 37) _ = _
      simp only [Act.put, List.setIfInBounds_toArray, List.set_cons_zero, List.set_cons_succ, i64_w, i32_w]
      rfl
    refine one_ (i := 9) (N := some 38) #[true, true, true, true, true, true, true, true, true, true, false, false, false, false, false, false, false] rfl rfl (by kernel_rfl) (by decide) (fun K hK => ?_)
    refine value_ (w1 := ?_) (v := ?_) (by rfl) rfl ?_ ?_
    rotate_left 2
    · go_simp
      constructor
      · rfl
      · rfl
    have HBX := Aside0.mk (heap_alloc_new w5 (.cells #[.slice A4 (liveV l).length c4] 25))
    have HO6 := Aside0.mk (Kd.R_below HO5.out (below_alloc (Below.refl _ _) (.cells #[.slice A4 (liveV l).length c4] 25)))
    refine hK.out _ _ ⟨(cell_alloc1 hHeld.1), ⟨below_alloc hHeld.2.out _⟩⟩ (fun hHeld => ?_)
    clear hK K
    refine norm_ (a' := ?_) ?_ ?_
    rotate_left
    · show Act.put _ (some 38) _ = _
      simp only [Act.put, List.setIfInBounds_toArray, List.set_cons_zero, List.set_cons_succ, i64_w, i32_w]
      rfl
    refine one_ (i := 10) (N := some 39) #[true, true, true, true, true, true, true, true, true, true, true, false, false, false, false, false, false] rfl rfl (by kernel_rfl) (by decide) (fun K hK => ?_)
    refine Kd.R_append_rows_step valK (w0 := wS) wS.heap.size (by rfl) (.tmp 32) (.tmp 38) 22 25 (.slice none 0 0) 24 rfl Try.underlying22 info25 rfl (show 0 < 1 by decide) (by omega) v1 vs [.slice A4 (liveV l).length c4] _ _ _ (fun _ => True) (fun _ => False) rfl rfl ?aO ?aR (fun _ _ h => h) (fun _ h => h.elim) (fun _ _ => trivial) hHeld.2.out hHeld.2.out.size ?aL ?_
    (case aO => exact HO6.out)
    (case aR => exact val_one HBX.out rfl)
    (case aL => have := HM.out; have := HVL.out; omega)
    intro v7 w7 ho hb hg hat
    have HS0_ := cell_grown hg hHeld.1 (old_ne HO6.out HAD.out)
    obtain ⟨A7, n7, c7, hv7, hN7⟩ := gone_fin HV.out HR5.out.1 HR5.out.2 hg hb ho HLX.out HSX.out HGK.out
    subst hv7
    have HN7 := Aside0.mk hN7
    clear ho hg hat hN7
    refine hK.out _ _ ⟨HS0_, ⟨hb⟩⟩ (fun hHeld => ?_)
    clear hK K
    refine norm_ (a' := ?_) ?_ ?_
    rotate_left
    · show Act.put _ (some 39) _ = _
      simp only [Act.put, List.setIfInBounds_toArray, List.set_cons_zero, List.set_cons_succ, i64_w, i32_w]
      rfl
    refine one_ (i := 11) (N := some 40) #[true, true, true, true, true, true, true, true, true, true, true, true, false, false, false, false, false] rfl rfl (by kernel_rfl) (by decide) (fun K hK => ?_)
    refine goes_ Try.func15 (by kernel_rfl) rfl #[.slice A7 n7 c7] (by rfl) rfl rfl (by simp only [List.map_toArray, List.map_cons, List.map_nil]; rfl) ?_
    with_reducible refine (HN7.out).mono ?_
    rintro e w8 ⟨hb8, A8, c8, rfl, hl8, hC8⟩
    refine ⟨_, rfl, ?_⟩
    have HS0_ := (Below.cell hb8 (World.block_lt_of_cell? _ _ hHeld.1)).trans hHeld.1
    have HC8 := Aside0.mk hC8
    have HL8 := Aside0.mk hl8
    clear hC8 hl8
    refine hK.out _ _ ⟨HS0_, ⟨below_then hHeld.2.out hHeld.2.out.size hb8⟩⟩ (fun hHeld => ?_)
    clear hK K
    refine norm_ (a' := ?_) ?_ ?_
    rotate_left
    · show Act.put _ (some 40) _ = _
      simp only [Act.put, List.setIfInBounds_toArray, List.set_cons_zero, List.set_cons_succ, i64_w, i32_w]
      rfl
    refine pure_ (i := 12) (N := some 28) (v := ?_) (a' := ?_) #[true, true, true, true, true, true, true, true, true, true, true, true, true, false, false, false, false] rfl rfl (by kernel_rfl) (fun _ _ _ h => h) (Or.inl ⟨by rfl, ?_⟩) ?_ ?_
    rotate_left
    · intro w'
      go_simp
      with_reducible rfl
    rotate_left
    · simp only [Act.put, List.setIfInBounds_toArray, List.set_cons_zero, List.set_cons_succ, i64_w, i32_w]
      rfl
    refine pure_ (i := 13) (N := some 41) (v := ?_) (a' := ?_) #[true, true, true, true, true, true, true, true, true, true, true, true, true, true, false, false, false] rfl rfl (by kernel_rfl) (fun _ _ _ h => h) (Or.inl ⟨by rfl, ?_⟩) ?_ ?_
    rotate_left
    · intro w'
      go_simp
      with_reducible rfl
    rotate_left
    · simp only [Act.put, List.setIfInBounds_toArray, List.set_cons_zero, List.set_cons_succ, i64_w, i32_w]
      rfl
    refine pure_ (i := 14) (N := some 42) (v := ?_) (a' := ?_) #[true, true, true, true, true, true, true, true, true, true, true, true, true, true, true, false, false] rfl rfl (by kernel_rfl) (fun _ _ _ h => h) (Or.inl ⟨by rfl, ?_⟩) ?_ ?_
    rotate_left
    · intro w'
      go_simp
      with_reducible rfl
    rotate_left
    · simp only [Act.put, List.setIfInBounds_toArray, List.set_cons_zero, List.set_cons_succ, i64_w, i32_w]
      rfl
    refine pure_ (i := 15) (N := some 6) (v := ?_) (a' := ?_) #[true, true, true, true, true, true, true, true, true, true, true, true, true, true, true, true, false] rfl rfl (by kernel_rfl) (fun _ _ _ h => h) (Or.inl ⟨by rfl, ?_⟩) ?_ ?_
    rotate_left
    · intro w'
      go_simp
      with_reducible rfl
    rotate_left
    · simp only [Act.put, List.setIfInBounds_toArray, List.set_cons_zero, List.set_cons_succ, i64_w, i32_w]
      rfl
    refine pure_ (i := 16) (N := some 7) (v := ?_) (a' := ?_) #[true, true, true, true, true, true, true, true, true, true, true, true, true, true, true, true, true] rfl rfl (by kernel_rfl) (fun _ _ _ h => h) (Or.inl ⟨by rfl, ?_⟩) ?_ ?_
    rotate_left
    · intro w'
      go_simp
      with_reducible rfl
    rotate_left
    · simp only [Act.put, List.setIfInBounds_toArray, List.set_cons_zero, List.set_cons_succ, i64_w, i32_w]
      rfl
    refine done_ (by kernel_rfl) ?_
    have b8 := hHeld.2.out
    have B8 := Aside0.mk (below_then B3.out B3.out.size b8)
    have C38 := Aside0.mk (Kd.C_below C3.out b8)
    clear hHeld b8 HTake HV X0 HAD h0m hmm
    go_wp2_with fail
    refine (Live_T A3 c3 (nwV (xs ++ [l])) w8 C38.out L3.out (by have := HLN.out; have := HSU.out; omega)).mono ?_
    rintro e w9 ⟨hb9, A9, c9, rfl, hl9, hC9⟩
    have B9 := Aside0.mk (below_then B8.out B8.out.size hb9)
    have C9 := Aside0.mk hC9
    have L9 := Aside0.mk hl9
    have C89 := Aside0.mk (Kd.C_below HC8.out hb9)
    clear hb9 hC9 hl9
    go_wp2_with fail
    refine (Live_T A8 c8 (nwV (xs ++ [liveV l])) w9 C89.out HL8.out (by have := HLM.out; have := HSX.out; omega)).mono ?_
    rintro e wa ⟨hba, Aa, ca, rfl, hla, hCa⟩
    rw [← HNW.out] at hla hCa ⊢
    have BA := Aside0.mk (below_then B9.out B9.out.size hba)
    have CA := Aside0.mk hCa
    have LA := Aside0.mk hla
    have C9A := Aside0.mk (Kd.C_below C9.out hba)
    have HLV := Aside0.mk ((live_sub (nwV (xs ++ [l]))).length_le)
    clear hba hCa hla
    go_wp2_with fail
    refine (SameAll_T A9 c9 (liveV (nwV (xs ++ [l]))) Aa ca wa C9A.out L9.out CA.out LA.out (by have := HLV.out; have := HLN.out; have := HSU.out; omega)).mono ?_
    rintro e wb ⟨rfl, hbb⟩
    have BB := Aside0.mk (below_then BA.out BA.out.size hbb)
    clear hbb
    go_wp2
    go_ret
    exact ⟨rfl, BB.out⟩
  · have hbd := hN3.bad hok
    subst hbd
    clear hN3 hok
    go_wp2
    go_ret
    exact ⟨rfl, B3.out⟩
end Go.Proofs.Ythlelhndmnkmjaa.Pr
