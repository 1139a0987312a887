/- MergeSteps' walk -/
import Derived.Test.YthlelhndmnkmjaaMiB
import Derived.Test.YthlelhndmnkmjaaRdk
import Derived.Shelf.AbstractIn
namespace Go.Proofs.Ythlelhndmnkmjaa.Pr
open Go.RowKit Go.Proofs.Ythlelhndmnkmjaa.Brid Go.Proofs.YthlelhndmnkmjaaW.PrintWords Go.Proofs.YthlelhndmnkmjaaW.PrintLast Go.Proofs.YthlelhndmnkmjaaW.PrintMore
set_option linter.unusedVariables false
set_option linter.unusedSimpArgs false
set_option maxHeartbeats 4000000
set_option maxRecDepth 100000
theorem u64_nonneg (a : Int) : 0 ≤ IntKind.u64.wrap a := by
  show 0 ≤ a % 18446744073709551616
  omega
theorem u64_small (a : Int) (h0 : 0 ≤ a) (h1 : a ≤ 2000) : IntKind.u64.wrap a = a := by
  show a % 18446744073709551616 = a
  omega
theorem steps_i (a : Int) (n : Nat) (hn : n ≤ 1024) : ∃ i : Nat, i ≤ n ∧ wrap64 ((IntKind.u64.wrap a).tmod (IntKind.u64.wrap (wrap64 ((n : Int) + 1)))) = (i : Int) ∧ ¬ IntKind.u64.wrap (wrap64 ((n : Int) + 1)) = 0 := by
  have e1 : wrap64 ((n : Int) + 1) = (n : Int) + 1 := by unfold wrap64; omega
  have e2 : IntKind.u64.wrap ((n : Int) + 1) = (n : Int) + 1 := u64_small _ (by omega) (by omega)
  rw [e1, e2, Int.tmod_eq_emod_of_nonneg (u64_nonneg a)]
  have h1 := Int.emod_nonneg (IntKind.u64.wrap a) (show (n : Int) + 1 ≠ 0 by omega)
  have h2 := Int.emod_lt_of_pos (IntKind.u64.wrap a) (show 0 < (n : Int) + 1 by omega)
  generalize IntKind.u64.wrap a % ((n : Int) + 1) = r at *
  refine ⟨r.toNat, by omega, ?_, by omega⟩
  unfold wrap64
  omega
theorem steps_k (a : Int) (n i : Nat) (hn : n ≤ 1024) (hi : i ≤ n) : ∃ k : Nat, i ≤ k ∧ k ≤ n ∧ wrap64 ((i : Int) + wrap64 ((IntKind.u64.wrap a).tmod (IntKind.u64.wrap (wrap64 (wrap64 ((n : Int) - (i : Int)) + 1))))) = (k : Int) ∧ ¬ IntKind.u64.wrap (wrap64 (wrap64 ((n : Int) - (i : Int)) + 1)) = 0 := by
  have e0 : wrap64 ((n : Int) - (i : Int)) = ((n - i : Nat) : Int) := by unfold wrap64; omega
  rw [e0]
  obtain ⟨j, h1, h2, h3⟩ := steps_i a (n - i) (by omega)
  rw [h2]
  refine ⟨i + j, by omega, by omega, ?_, h3⟩
  unfold wrap64
  omega
theorem steps_fin {wS w8 : World} {ok : Nat → Prop} {v8 : Value} {yss xss : List (List S41)} (ho : Kd.R (oldK (Kd.slice 41 k41) wS) 25 w8 wS.heap.size ok v8 yss) (hb : Below wS.heap.size wS w8) (hlen : yss.length ≤ 1024) (hsum : sumLen yss ≤ 1099511627776) (hok : ∀ x ∈ yss, OkL x) (hnw : nwV yss = nwV xss) :
    ∃ A8 n8 c8, v8 = .slice A8 n8 c8 ∧ Calls Try.prog 15 #[.slice A8 n8 c8] w8 fun e w' => NewGood xss w8 e w' := by
  obtain ⟨A8, c8, hv, hc, hC⟩ := Kd.R_reads ho
  refine ⟨A8, _, c8, hv, (Newest_T A8 c8 yss w8 (oldK_C hC hb) hc hlen hsum).mono fun e w' h => ?_⟩
  have h2 := h.to_good hok
  unfold NewGood at h2 ⊢
  rw [← hnw]
  exact h2
theorem C_part {w : World} {A : Option Addr} {n c : Nat} {xss : List (List S41)} (hC : Kd.C (Kd.slice 41 k41) w A n xss) (hc : n ≤ c) (k : Nat) (hk : k ≤ n) : Kd.C (Kd.slice 41 k41) w (if c = k then A else A.map (fun x => x.add k)) (n - k) (xss.drop k) := by
  obtain rfl : xss.length = n := hC.1
  have h := Kd.C_drop (c := c) (m := k) hC hk hc
  rw [show xss.length - k = (xss.drop k).length by rw [List.length_drop]]
  simpa [Kd.slice] using h
theorem mid_T {w : World} {A : Option Addr} {n c : Nat} {xss : List (List S41)} (hC : Kd.C (Kd.slice 41 k41) w A n xss) (hc : n ≤ c) (i k : Nat) (hik : i ≤ k) (hk : k ≤ n) (hl : xss.length ≤ 1024) (hs : sumLen xss ≤ 1099511627776) (hok : ∀ x ∈ xss, OkL x) :
    Calls Try.prog 15 #[.slice (if c = i then A else A.map (fun x => x.add i)) (k - i) (c - i)] w fun e w' => NewGood ((xss.drop i).take (k - i)) w e w' := by
  have h1 := C_part hC hc i (by omega)
  have hxl : xss.length = n := hC.1
  rw [show n - i = (xss.drop i).length by rw [List.length_drop, hxl]] at h1
  have h2 := Kd.C_take (m := k - i) h1 (by rw [List.length_drop]; omega)
  obtain ⟨ys, hys⟩ : ∃ ys, ys = (xss.drop i).take (k - i) := ⟨_, rfl⟩
  have hlen : ys.length = k - i := by rw [hys, List.length_take, List.length_drop]; omega
  have hsy : sumLen ys ≤ 1099511627776 := by rw [hys]; exact Nat.le_trans (sum_part i (k - i)) hs
  have hoy : ∀ x ∈ ys, OkL x := fun x hx => by rw [hys] at hx; exact hok x (List.drop_subset _ _ (List.take_subset _ _ hx))
  rw [← hys] at h2 ⊢
  rw [← hlen]
  exact (Newest_T _ (c - i) ys w h2 (by rw [hlen]; omega) (by rw [hlen]; omega) hsy).mono fun e w' h => h.to_good hoy
theorem take_T {w : World} {A : Option Addr} {xss : List (List S41)} (hC : Kd.C (Kd.slice 41 k41) w A xss.length xss) (i : Nat) (hi : i ≤ xss.length) : Kd.C (Kd.slice 41 k41) w A i (xss.take i) := by
  have h := Kd.C_take (m := i) hC hi
  rwa [List.length_take, Nat.min_eq_left hi] at h
theorem MergeSteps_walk (W : World) (A0 : Option Addr) (c0 : Nat) (l0 : List (List (S41))) (hc0 : l0.length ≤ c0) (hr0 : Kd.C (Kd.slice 41 k41) W A0 l0.length l0) (b0 : BL (BL B41) l0 1048576) (a1 : Int) (b1 : (Lit.int .i64 a1).wf = true) (a2 : Int) (b2 : (Lit.int .i64 a2).wf = true) :
    Calls Try.prog 6 #[.slice A0 l0.length c0, .int .i64 a1, .int .i64 a2] W fun e W' => e = .returned (.bool true) ∧ Below W.heap.size W W' := by
  have HI := Aside0.mk (inB_of b0)
  have HC := Aside0.mk hr0
  clear hr0 b0 b1 b2
  go_enter Try.func6, Try.ntmps6
  go_wp2_with fail
  refine (lives_T _).mono ?_
  rintro e w1 ⟨rfl, hb1⟩
  have B1 := Aside0.mk hb1
  clear hb1
  go_wp2_with fail
  refine (Early_T A0 c0 l0 w1 (Kd.C_below HC.out B1.out) hc0 (by have := HI.out.len; omega) (fun l hl => by have := HI.out.each l hl; omega)).mono ?_
  rintro e w2 ⟨hb2, A, c, rfl, hl2, hC2⟩
  have B2 := Aside0.mk (below_then B1.out B1.out.size hb2)
  have C2 := Aside0.mk hC2
  have L2 := Aside0.mk hl2
  have HL := Aside0.mk (early_len l0)
  have HSU := Aside0.mk (early_sum l0)
  clear hb2 hC2 hl2
  generalize earlyV l0 = xss at *
  go_wp2_with fail
  refine (Newest_T A c xss w2 C2.out L2.out (by have := HL.out; omega) (by have := HSU.out; omega)).mono ?_
  rintro e w3 hN3
  have B3 := Aside0.mk (below_then B2.out B2.out.size hN3.below)
  by_cases hok : ∀ l ∈ xss, OkL l
  · obtain ⟨A3, c3, rfl, hl3, hC3⟩ := hN3.good hok
    have HOK := Aside0.mk hok
    have C3 := Aside0.mk hC3
    have L3 := Aside0.mk hl3
    have C2' := Aside0.mk (Kd.C_below C2.out hN3.below)
    clear hN3 hC3 hl3 hok C2
    obtain ⟨n, hn⟩ : ∃ n, n = xss.length := ⟨_, rfl⟩
    have HN := Aside0.mk hn
    have hn1024 : n ≤ 1024 := by have := HL.out; omega
    obtain ⟨i, hi, hI, hI0⟩ := steps_i a1 n hn1024
    obtain ⟨k, hik, hkn, hK, hK0⟩ := steps_k a2 n i hn1024 hi
    have hnc : n ≤ c := by have := L2.out; omega
    have HN1024 := Aside0.mk hn1024
    rw [← hn]
    clear hn hn1024
    have HMID := Aside0.mk (mid_T C2'.out (by have := L2.out; omega) i k hik (by rw [← HN.out]; exact hkn) (by have := HL.out; omega) (by have := HSU.out; omega) HOK.out)
    have HS : Aside0 (i ≤ k ∧ k ≤ n) := ⟨⟨hik, hkn⟩⟩
    have hz1 : (0 : Int) ≤ (i : Int) := by omega
    have hz2 : (i : Int) ≤ (k : Int) := by omega
    have hz3 : (k : Int) ≤ (n : Int) := by omega
    have hz4 : k ≤ c := by omega
    have hz6 : i ≤ c := by omega
    have hz5 : (k : Int) ≤ (c : Int) := by omega
    go_wp2_with fail
    all_goals
      first
      | (have h := HMID.out; rw [if_neg (by assumption)] at h; refine h.mono ?_; clear h)
      | (have hci : i = c := Eq.symm (by assumption); subst hci; have h := HMID.out; rw [if_pos rfl, Nat.sub_self] at h; refine h.mono ?_; clear h)
      rintro e w4 ⟨hb4, A4, c4, rfl, hl4, hC4⟩
      have B4 := Aside0.mk (below_then B3.out B3.out.size hb4)
      have C34 := Aside0.mk (Kd.C_below C3.out hb4)
      have C24 := Aside0.mk (Kd.C_below C2'.out hb4)
      have HKM : Aside0 ((Kd.slice 41 k41).K w4 (nwV ((xss.drop i).take (k - i))) [.slice A4 (nwV ((xss.drop i).take (k - i))).length c4]) := ⟨⟨A4, c4, rfl, hl4, hC4⟩⟩
      have HTake : Aside0 (∀ w', Below w4.heap.size w4 w' → Kd.C (oldK (Kd.slice 41 k41) w4) w' A i (xss.take i)) := ⟨fun w' hb => C_old (take_T C24.out i (by have := HS.out; have := HN.out; omega)) hb⟩
      have HDrop := Aside0.mk (fun w' (hb : Below w4.heap.size w4 w') => C_old (C_part (HN.out ▸ C24.out : Kd.C (Kd.slice 41 k41) w4 A n xss) hnc k HS.out.2) hb)
      have HN8K := Aside0.mk (nw_steps HOK.out i k hik)
      have HSW := HN8K
      have HSO := Aside0.mk (steps_ok HOK.out i k)
      have HSS : Aside0 (sumLen (xss.take i ++ [nwV ((xss.drop i).take (k - i))] ++ xss.drop k) ≤ 1099511627776) := ⟨by have := sum_steps (xss := xss) i k; have := HSU.out; omega⟩
      have HTI : Aside0 ((xss.take i).length ≤ 1024) := ⟨by rw [List.length_take]; have := HL.out; omega⟩
      have HSL : Aside0 ((xss.take i ++ [nwV ((xss.drop i).take (k - i))] ++ xss.drop k).length ≤ 1024) := ⟨by rw [List.length_append, List.length_append, List.length_take, List.length_drop, List.length_singleton]; have := HL.out; omega⟩
      clear hb4 hC4 hl4 HMID C24 C2' HN8K
      generalize (xss.drop i).take (k - i) = mid at *
      generalize w4 = wS at *
      go_wp2
      refine start_ (n := 17) (S := fun w' => Aside0 (Below wS.heap.size wS w')) (ds := []) #[false, false, false, false, false, false, false, false, false, false, false, false, false, false, false, false, false] (by kernel_rfl) rfl rfl (⟨below_drew1 (Below.refl _ _)⟩) (fun hHeld => ?_)
      refine pure_ (i := 0) (N := some 55) (v := ?_) (a' := ?_) #[true, false, false, false, false, false, false, false, false, false, false, false, false, false, false, false, false] rfl rfl (by kernel_rfl) (fun _ _ _ h => h) (Or.inl ⟨by rfl, ?_⟩) ?_ ?_
      rotate_left
      · intro w'
        go_simp
        with_reducible rfl
      rotate_left
      · simp only [Act.put, List.setIfInBounds_toArray, List.set_cons_zero, List.set_cons_succ, i64_w, i32_w]
        rfl
      refine pure_ (i := 1) (N := some 56) (v := ?_) (a' := ?_) #[true, true, false, false, false, false, false, false, false, false, false, false, false, false, false, false, false] rfl rfl (by kernel_rfl) (fun _ _ _ h => h) (Or.inl ⟨by rfl, ?_⟩) ?_ ?_
      rotate_left
      · intro w'
        go_simp
        with_reducible rfl
      rotate_left
      · simp only [Act.put, List.setIfInBounds_toArray, List.set_cons_zero, List.set_cons_succ, i64_w, i32_w]
        rfl
      refine pure_ (i := 2) (N := some 57) (v := ?_) (a' := ?_) #[true, true, true, false, false, false, false, false, false, false, false, false, false, false, false, false, false] rfl rfl (by kernel_rfl) (fun _ _ _ h => h) (Or.inl ⟨by rfl, ?_⟩) ?_ ?_
      rotate_left
      · intro w'
        go_simp
        with_reducible rfl
      rotate_left
      · simp only [Act.put, List.setIfInBounds_toArray, List.set_cons_zero, List.set_cons_succ, i64_w, i32_w]
        rfl
      refine pure_ (i := 4) (N := some 59) (v := ?_) (a' := ?_) #[true, true, true, false, true, false, false, false, false, false, false, false, false, false, false, false, false] rfl rfl (by kernel_rfl) (fun _ _ _ h => h) (Or.inl ⟨by rfl, ?_⟩) ?_ ?_
      rotate_left
      · intro w'
        go_simp
        with_reducible rfl
      rotate_left
      · simp only [Act.put, List.setIfInBounds_toArray, List.set_cons_zero, List.set_cons_succ, i64_w, i32_w]
        rfl
      refine pure_ (i := 7) (N := some 62) (v := ?_) (a' := ?_) #[true, true, true, false, true, false, false, true, false, false, false, false, false, false, false, false, false] rfl rfl (by kernel_rfl) (fun _ _ _ h => h) (Or.inl ⟨by rfl, ?_⟩) ?_ ?_
      rotate_left
      · intro w'
        go_simp
        with_reducible rfl
      rotate_left
      · simp only [Act.put, List.setIfInBounds_toArray, List.set_cons_zero, List.set_cons_succ, i64_w, i32_w]
        rfl
      refine pure_ (i := 8) (N := some 63) (v := ?_) (a' := ?_) #[true, true, true, false, true, false, false, true, true, false, false, false, false, false, false, false, false] rfl rfl (by kernel_rfl) (fun _ _ _ h => h) (Or.inl ⟨by rfl, ?_⟩) ?_ ?_
      rotate_left
      · intro w'
        go_simp
        with_reducible rfl
      rotate_left
      · simp only [Act.put, List.setIfInBounds_toArray, List.set_cons_zero, List.set_cons_succ, i64_w, i32_w]
        rfl
      refine pure_ (i := 9) (N := some 64) (v := ?_) (a' := ?_) #[true, true, true, false, true, false, false, true, true, true, false, false, false, false, false, false, false] rfl rfl (by kernel_rfl) (fun _ _ _ h => h) (Or.inl ⟨by rfl, ?_⟩) ?_ ?_
      rotate_left
      · intro w'
        go_simp
        with_reducible rfl
      rotate_left
      · simp only [Act.put, List.setIfInBounds_toArray, List.set_cons_zero, List.set_cons_succ, i64_w, i32_w]
        rfl
      refine join_ (σ := Value × Nat) 8 #[true, true, true, true, true, true, false, true, true, true, false, false, false, false, false, false, false] (fun s_ => [(58, s_.1), (60, .slice (some ⟨s_.2, 0, none⟩) 1 1)]) (fun s_ w' => Aside0 (Below wS.heap.size wS w') ∧ Aside0 (Kd.R (oldK (Kd.slice 41 k41) wS) 25 w' wS.heap.size (fun _ => True) s_.1 (xss.take i)) ∧ Aside0 (w'.heap[s_.2]? = some (.cells #[.slice A4 (nwV mid).length c4] 25 (0, 0)))) ?_ ?_
      rotate_left
      · intro hCont
        refine two_ (i := 3) (j := 5) (Ni := some 58) (Nj := some 60) #[true, true, true, true, true, false, false, true, true, true, false, false, false, false, false, false, false] #[true, true, true, false, true, true, false, true, true, true, false, false, false, false, false, false, false] rfl rfl rfl rfl (by kernel_rfl) (by decide) (by decide) (fun K hK => ?_) (fun K hK => ?_)
        · skip
          refine Kd.R_append_rows_step (oldK (Kd.slice 41 k41) wS) (w0 := wS) wS.heap.size (by rfl) (.const (.slice none 0 0)) (.tmp 57) 22 25 (.slice none 0 0) 24 rfl Try.underlying22 info25 rfl (show 0 < 1 by decide) (by omega) (.slice none 0 0) ([] : List (List S41)) (xss.take i) _ _ _ (fun _ => True) (fun _ => False) rfl rfl ?aO ?aR (fun _ _ h => h) (fun _ h => h.elim) (fun _ _ => trivial) hHeld.out hHeld.out.size ?aL ?_
          (case aO => exact Kd.R_nil _ _ _ _ _)
          (case aR => exact HTake.out _ hHeld.out)
          (case aL => have := HN1024.out; simp only [List.length_nil]; omega)
          intro v1 w5 ho hb hg hat
          have HO1 := Aside0.mk ho
          clear ho hg hat
          refine hK.out _ _ (⟨hb⟩) (fun hHeld => ?_)
          clear hK K
          refine norm_ (a' := ?_) ?_ ?_
          rotate_left
          · show Act.put _ (some 58) _ = _
            simp only [Act.put, List.setIfInBounds_toArray, List.set_cons_zero, List.set_cons_succ, i64_w, i32_w]
            rfl
          refine one_ (i := 5) (N := some 60) #[true, true, true, true, true, true, false, true, true, true, false, false, false, false, false, false, false] rfl rfl (by kernel_rfl) (by decide) (fun K hK => ?_)
          refine value_ (w1 := ?_) (v := ?_) (by rfl) rfl ?_ ?_
          rotate_left 2
          · go_simp
            constructor
            · rfl
            · rfl
          have HBX1 := Aside0.mk (heap_alloc_new w5 (.cells #[.slice A4 (nwV mid).length c4] 25))
          have HO2 := Aside0.mk (Kd.R_below HO1.out (below_alloc (Below.refl _ _) (.cells #[.slice A4 (nwV mid).length c4] 25)))
          refine hK.out _ _ (⟨below_alloc hHeld.out _⟩) (fun hHeld => ?_)
          clear hK K
          refine norm_ (a' := ?_) ?_ ?_
          rotate_left
          · show Act.put _ (some 60) _ = _
            simp only [Act.put, List.setIfInBounds_toArray, List.set_cons_zero, List.set_cons_succ, i64_w, i32_w]
            rfl
          exact norm_ (by simp only [putAll, Act.put, List.setIfInBounds_toArray, List.set_cons_zero, List.set_cons_succ]) (hCont (v1, w5.heap.size) _ ⟨hHeld, HO2, HBX1⟩)
        · skip
          refine value_ (w1 := ?_) (v := ?_) (by rfl) rfl ?_ ?_
          rotate_left 2
          · go_simp
            constructor
            · rfl
            · rfl
          have HBX := Aside0.mk (heap_alloc_new wS.drew (.cells #[.slice A4 (nwV mid).length c4] 25))
          refine hK.out _ _ (⟨below_alloc hHeld.out _⟩) (fun hHeld => ?_)
          clear hK K
          refine norm_ (a' := ?_) ?_ ?_
          rotate_left
          · show Act.put _ (some 60) _ = _
            simp only [Act.put, List.setIfInBounds_toArray, List.set_cons_zero, List.set_cons_succ, i64_w, i32_w]
            rfl
          refine one_ (i := 3) (N := some 58) #[true, true, true, true, true, true, false, true, true, true, false, false, false, false, false, false, false] rfl rfl (by kernel_rfl) (by decide) (fun K hK => ?_)
          refine Kd.R_append_rows_step (oldK (Kd.slice 41 k41) wS) (w0 := wS) wS.heap.size (by rfl) (.const (.slice none 0 0)) (.tmp 57) 22 25 (.slice none 0 0) 24 rfl Try.underlying22 info25 rfl (show 0 < 1 by decide) (by omega) (.slice none 0 0) ([] : List (List S41)) (xss.take i) _ _ _ (fun _ => True) (fun _ => False) rfl rfl ?aO ?aR (fun _ _ h => h) (fun _ h => h.elim) (fun _ _ => trivial) hHeld.out hHeld.out.size ?aL ?_
          (case aO => exact Kd.R_nil _ _ _ _ _)
          (case aR => exact HTake.out _ hHeld.out)
          (case aL => have := HN1024.out; simp only [List.length_nil]; omega)
          intro v1 w5 ho hb hg hat
          have hbx := HBX.out
          have HBX1 := Aside0.mk ((hg.block _ (Array.getElem?_eq_some_iff.1 hbx).1 (by simp [Value.ownBlock])).trans hbx)
          clear hbx
          have HO1 := Aside0.mk ho
          clear ho hg hat
          refine hK.out _ _ (⟨hb⟩) (fun hHeld => ?_)
          clear hK K
          refine norm_ (a' := ?_) ?_ ?_
          rotate_left
          · show Act.put _ (some 58) _ = _
            simp only [Act.put, List.setIfInBounds_toArray, List.set_cons_zero, List.set_cons_succ, i64_w, i32_w]
            rfl
          exact norm_ (by simp only [putAll, Act.put, List.setIfInBounds_toArray, List.set_cons_zero, List.set_cons_succ]) (hCont (v1, wS.heap.size) _ ⟨hHeld, HO1, HBX1⟩)
      rintro ⟨v1, g⟩ w6 ⟨hHeld, HO, HX⟩
      dsimp only at hHeld HO HX
      refine norm_ (a' := ?_) ?_ ?_
      rotate_left
      · simp only [putAll, Act.put, List.setIfInBounds_toArray, List.set_cons_zero, List.set_cons_succ]
        rfl
      refine one_ (i := 6) (N := some 61) #[true, true, true, true, true, true, true, true, true, true, false, false, false, false, false, false, false] rfl rfl (by kernel_rfl) (by decide) (fun K hK => ?_)
      refine Kd.R_append_rows_step (oldK (Kd.slice 41 k41) wS) (w0 := wS) wS.heap.size (by rfl) (.tmp 58) (.tmp 60) 22 25 (.slice none 0 0) 24 rfl Try.underlying22 info25 rfl (show 0 < 1 by decide) (by omega) v1 (xss.take i) [nwV mid] _ _ _ (fun _ => True) (fun _ => False) rfl rfl ?aO ?aR (fun _ _ h => h) (fun _ h => h.elim) (fun _ _ => trivial) hHeld.out hHeld.out.size ?aL ?_
      (case aO => exact HO.out)
      (case aR => exact row_one HX.out HKM.out)
      (case aL => have := HN1024.out; have := HTI.out; omega)
      intro v7 w7 ho hb hg hat
      have HO7 := Aside0.mk ho
      clear ho hg hat
      refine hK.out _ _ (⟨hb⟩) (fun hHeld => ?_)
      clear hK K
      refine norm_ (a' := ?_) ?_ ?_
      rotate_left
      · show Act.put _ (some 61) _ = _
        simp only [Act.put, List.setIfInBounds_toArray, List.set_cons_zero, List.set_cons_succ, i64_w, i32_w]
        rfl
      refine one_ (i := 10) (N := some 65) #[true, true, true, true, true, true, true, true, true, true, true, false, false, false, false, false, false] rfl rfl (by kernel_rfl) (by decide) (fun K hK => ?_)
      refine Kd.R_append_rows_step (oldK (Kd.slice 41 k41) wS) (w0 := wS) wS.heap.size (by rfl) (.tmp 61) (.tmp 64) 22 25 (.slice none 0 0) 24 rfl Try.underlying22 info25 rfl (show 0 < 1 by decide) (by omega) v7 (xss.take i ++ [nwV mid]) (xss.drop k) _ _ _ (fun _ => True) (fun _ => False) rfl rfl ?aO ?aR (fun _ _ h => h) (fun _ h => h.elim) (fun _ _ => trivial) hHeld.out hHeld.out.size ?aL ?_
      (case aO => exact HO7.out)
      (case aR => exact HDrop.out _ hHeld.out)
      (case aL => have := HN1024.out; have := HTI.out; rw [List.length_append, List.length_singleton]; omega)
      intro v8 w8 ho hb hg hat
      obtain ⟨A8, n8, c8, hv8, hN8⟩ := steps_fin ho hb HSL.out HSS.out HSO.out HSW.out
      subst hv8
      have HN8 := Aside0.mk hN8
      clear ho hg hat hN8
      refine hK.out _ _ (⟨hb⟩) (fun hHeld => ?_)
      clear hK K
      refine norm_ (a' := ?_) ?_ ?_
      rotate_left
      · show Act.put _ (some 65) _ = _
        simp only [Act.put, List.setIfInBounds_toArray, List.set_cons_zero, List.set_cons_succ, i64_w, i32_w]
        rfl
      refine one_ (i := 11) (N := some 66) #[true, true, true, true, true, true, true, true, true, true, true, true, false, false, false, false, false] rfl rfl (by kernel_rfl) (by decide) (fun K hK => ?_)
      refine goes_ Try.func15 (by kernel_rfl) rfl #[.slice A8 n8 c8] (by rfl) rfl rfl (by simp only [List.map_toArray, List.map_cons, List.map_nil]; rfl) ?_
      with_reducible refine (HN8.out).mono ?_
      rintro e w9 ⟨hb9, A9, c9, rfl, hl9, hC9⟩
      refine ⟨_, rfl, ?_⟩
      have HC9 := Aside0.mk hC9
      have HL9 := Aside0.mk hl9
      clear hC9 hl9
      refine hK.out _ _ (⟨below_then hHeld.out hHeld.out.size hb9⟩) (fun hHeld => ?_)
      clear hK K
      refine norm_ (a' := ?_) ?_ ?_
      rotate_left
      · show Act.put _ (some 66) _ = _
        simp only [Act.put, List.setIfInBounds_toArray, List.set_cons_zero, List.set_cons_succ, i64_w, i32_w]
        rfl
      refine pure_ (i := 12) (N := some 54) (v := ?_) (a' := ?_) #[true, true, true, true, true, true, true, true, true, true, true, true, true, false, false, false, false] rfl rfl (by kernel_rfl) (fun _ _ _ h => h) (Or.inl ⟨by rfl, ?_⟩) ?_ ?_
      rotate_left
      · intro w'
        go_simp
        with_reducible rfl
      rotate_left
      · simp only [Act.put, List.setIfInBounds_toArray, List.set_cons_zero, List.set_cons_succ, i64_w, i32_w]
        rfl
      refine pure_ (i := 13) (N := some 67) (v := ?_) (a' := ?_) #[true, true, true, true, true, true, true, true, true, true, true, true, true, true, false, false, false] rfl rfl (by kernel_rfl) (fun _ _ _ h => h) (Or.inl ⟨by rfl, ?_⟩) ?_ ?_
      rotate_left
      · intro w'
        go_simp
        with_reducible rfl
      rotate_left
      · simp only [Act.put, List.setIfInBounds_toArray, List.set_cons_zero, List.set_cons_succ, i64_w, i32_w]
        rfl
      refine pure_ (i := 14) (N := some 68) (v := ?_) (a' := ?_) #[true, true, true, true, true, true, true, true, true, true, true, true, true, true, true, false, false] rfl rfl (by kernel_rfl) (fun _ _ _ h => h) (Or.inl ⟨by rfl, ?_⟩) ?_ ?_
      rotate_left
      · intro w'
        go_simp
        with_reducible rfl
      rotate_left
      · simp only [Act.put, List.setIfInBounds_toArray, List.set_cons_zero, List.set_cons_succ, i64_w, i32_w]
        rfl
      refine pure_ (i := 15) (N := some 13) (v := ?_) (a' := ?_) #[true, true, true, true, true, true, true, true, true, true, true, true, true, true, true, true, false] rfl rfl (by kernel_rfl) (fun _ _ _ h => h) (Or.inl ⟨by rfl, ?_⟩) ?_ ?_
      rotate_left
      · intro w'
        go_simp
        with_reducible rfl
      rotate_left
      · simp only [Act.put, List.setIfInBounds_toArray, List.set_cons_zero, List.set_cons_succ, i64_w, i32_w]
        rfl
      refine pure_ (i := 16) (N := some 14) (v := ?_) (a' := ?_) #[true, true, true, true, true, true, true, true, true, true, true, true, true, true, true, true, true] rfl rfl (by kernel_rfl) (fun _ _ _ h => h) (Or.inl ⟨by rfl, ?_⟩) ?_ ?_
      rotate_left
      · intro w'
        go_simp
        with_reducible rfl
      rotate_left
      · simp only [Act.put, List.setIfInBounds_toArray, List.set_cons_zero, List.set_cons_succ, i64_w, i32_w]
        rfl
      refine done_ (by kernel_rfl) ?_
      have b9 := hHeld.out
      have C39 := Aside0.mk (Kd.C_below C34.out b9)
      have B9 := Aside0.mk (below_then B4.out B4.out.size b9)
      have HLN := Aside0.mk (nwV_len xss)
      clear hHeld b9 HTake HDrop HKM
      go_wp2_with fail
      all_goals
        refine (SameAll_T A3 c3 (nwV xss) A9 c9 w9 C39.out L3.out HC9.out HL9.out (by have := HLN.out; have := HSU.out; omega)).mono ?_
        rintro e wb ⟨rfl, hbb⟩
        have BB := Aside0.mk (below_then B9.out B9.out.size hbb)
        clear hbb
        go_wp2
        go_ret
        exact ⟨rfl, BB.out⟩
  · have hbd := hN3.bad hok
    subst hbd
    clear hN3 hok
    go_wp2
    go_ret
    exact ⟨rfl, B3.out⟩
end Go.Proofs.Ythlelhndmnkmjaa.Pr
