/- The law SkipOwn: its walk. -/
import Derived.Test.YtnfliommpdjlkaaSkO
namespace Go.Proofs.Ytnfliommpdjlkaa.Pr
open Go.RowKit Go.Proofs.Ytnfliommpdjlkaa.Brid Go.Proofs.YtnfliommpdjlkaaW.PrintWords Go.Proofs.YtnfliommpdjlkaaW.PrintLast Go.Proofs.YtnfliommpdjlkaaW.PrintMore
set_option linter.unusedVariables false
set_option linter.unusedSimpArgs false
set_option maxHeartbeats 4000000
set_option maxRecDepth 100000
theorem SkipOwn_walk (W : World) (x0 : S25) (A0_1 : Option Addr) (c0_1 : Nat) (hc0_1 : x0.f1.length ≤ c0_1) (hr0_1 : Kd.C k27 W A0_1 x0.f1.length x0.f1) (b0 : B25 x0 1048576) (x1 : S27) (b1 : B27 x1 1048576) :
    Calls Try.prog 3 #[.agg #[.bool x0.f0, .slice A0_1 x0.f1.length c0_1], .agg #[.bool x1.f0, .int .i64 x1.f1, .string x1.f2]] W fun e W' => e = .returned (.bool true) ∧ Below W.heap.size W W' := by
  have hlm : x0.f1.length ≤ 1048576 := b0.2.1
  have B1 := below_alloc (Below.refl W.heap.size W) (.cells #[.bool x0.f0, .slice A0_1 x0.f1.length c0_1] 25)
  have B2 := below_alloc B1 (.cells #[.bool x1.f0, .int .i64 x1.f1, .string x1.f2] 27)
  have K0 := blk_alloc (heap_alloc_new W (.cells #[.bool x0.f0, .slice A0_1 x0.f1.length c0_1] 25)) (.cells #[.bool x1.f0, .int .i64 x1.f1, .string x1.f2] 27)
  have K1 := heap_alloc_new (W.alloc (.cells #[.bool x0.f0, .slice A0_1 x0.f1.length c0_1] 25)) (.cells #[.bool x1.f0, .int .i64 x1.f1, .string x1.f2] 27)
  rw [show (W.alloc (.cells #[.bool x0.f0, .slice A0_1 x0.f1.length c0_1] 25)).heap.size = W.heap.size + 1 by simp] at K1
  have HB2 := Aside0.mk B2
  have HK0 := Aside0.mk K0
  have HK1 := Aside0.mk K1
  have HC := Aside0.mk hr0_1
  have HZ2 := Aside0.mk (show ((W.alloc (.cells #[.bool x0.f0, .slice A0_1 x0.f1.length c0_1] 25)).alloc (.cells #[.bool x1.f0, .int .i64 x1.f1, .string x1.f2] 27)).heap.size = W.heap.size + 2 by simp)
  clear B1 B2 K0 K1 hr0_1
  go_enter Try.func3, Try.ntmps3
  go_wp2_with fail
  refine (lives_T _).mono ?_
  rintro e w1 ⟨rfl, hb1⟩
  have k0 := blk_below HK0.out hb1
  have k1 := blk_below HK1.out hb1
  have HB := Aside0.mk (below_then HB2.out HB2.out.size hb1)
  have HZ1 := Aside0.mk (show W.heap.size + 2 ≤ w1.heap.size by have := hb1.size; rw [HZ2.out] at this; exact this)
  have q0 := (blk_cell k0 0).trans rfl
  have q1 := (blk_cell k0 1).trans rfl
  have Hk0 := Aside0.mk k0
  have Hk1 := Aside0.mk k1
  clear hb1 k0 k1 HK0 HK1 HB2
  by_cases hl : x0.f1.length = 0
  · have hlz : (x0.f1.length : Int) = 0 := by omega
    have hlzb : ((x0.f1.length : Int) == 0) = true := by rw [hlz]; rfl
    go_wp2_with fail
    refine (lives_T _).mono ?_
    rintro e w2 ⟨rfl, hb2⟩
    have HB2 := Aside0.mk (below_then HB.out HB.out.size hb2)
    clear hb2
    go_wp2
    go_ret
    exact ⟨rfl, HB2.out⟩
  · have hlz : ¬ (x0.f1.length : Int) = 0 := by omega
    have hlzb : ((x0.f1.length : Int) == 0) = false := beq_eq_false_iff_ne.2 hlz
    go_wp2_with fail
    refine (New_T 3 w1).mono ?_
    rintro e w2 ⟨rfl, hb2, H2⟩
    have k0 := blk_below Hk0.out hb2
    have q0 := (blk_cell k0 0).trans rfl
    have q1 := (blk_cell k0 1).trans rfl
    have hC2 := Kd.C_below HC.out (below_then HB.out HB.out.size hb2)
    go_wp2
    have k0a := blk_alloc k0 (.cells #[.bool false, .slice none 0 0] 25)
    have q0a := (blk_cell k0a 0).trans rfl
    have q1a := (blk_cell k0a 1).trans rfl
    have hC3 := Kd.C_below hC2 (below_alloc (Below.refl w2.heap.size w2) (.cells #[.bool false, .slice none 0 0] 25))
    refine wp_cutX_T (fun x : Nat × Option Addr × Nat => { tmps := #[.agg #[.bool x0.f0, .slice A0_1 x0.f1.length c0_1], .agg #[.bool x1.f0, .int .i64 x1.f1, .string x1.f2], .pointer (some ⟨W.heap.size, 0, none⟩), .pointer (some ⟨W.heap.size + 1, 0, none⟩), .bool false, .pointer (some ⟨w1.heap.size, 0, none⟩), .pointer (some ⟨x.1, 0, none⟩), undef, undef, undef, undef, .bool true, .bool false, .bool false, .pointer (some ⟨W.heap.size, 1, none⟩), .slice A0_1 x0.f1.length c0_1, .int .i64 x0.f1.length, .bool false, .bool false, undef, .pointer (some ⟨w1.heap.size, 0, none⟩), .pointer (some ⟨W.heap.size, 0, none⟩), .bool x0.f0, .pointer (some ⟨W.heap.size, 1, none⟩), .slice A0_1 x0.f1.length c0_1, .slice x.2.1 x0.f1.length x.2.2, .agg #[.bool x0.f0, .slice x.2.1 x0.f1.length x.2.2], undef, undef, undef, undef, undef, undef, undef, undef, undef, undef, undef, undef, undef, undef, undef, undef, undef, undef, undef, undef, undef, undef, undef, undef, undef, undef, undef, undef, undef, undef, undef, undef, undef, undef, undef, undef, undef, undef, undef, undef, undef, undef, undef, undef, undef, undef, undef], defers := [] }) (fun x w' => w2.heap.size ≤ x.1 ∧ w'.heap[x.1]? = some (.cells #[.bool x0.f0, .slice x.2.1 x0.f1.length x.2.2] 25 (0, 0)) ∧ Kd.R k27 27 w' w2.heap.size (fun k => k ≠ x.1) (.slice x.2.1 x0.f1.length x.2.2) x0.f1 ∧ Below w2.heap.size w2 w') ?_ ?_
    · go_region_law (first | (refine Kd.R_append_rows_step k27 (w0 := w2) w2.heap.size rfl _ _ 23 27 (.agg #[(.bool false), (.int .i64 0), (.string ⟨#[]⟩)]) 32 rfl Try.underlying23 info27 rfl (by decide) (by omega) _ ([] : List S27) x0.f1 _ _ _ (fun _ => True) (fun _ => False) rfl rfl ?aO ?aR (fun _ _ h => h) (fun _ h => h.elim) ?aF ?aB ?aS ?aL ?_; (case aF => exact (fun _ _ => trivial)); (case aO => exact Kd.R_nil _ _ _ _ _); (case aL => simp only [List.length_nil]; omega); (case aR => exact hC3); (case aB => exact below_drew1 (below_alloc (Below.refl _ _) _)); (case aS => simp); intro v1 w3 ho hb hg hat; obtain ⟨A1, cc1, hv1⟩ := Kd.R_slice ho; subst hv1; have r0 := (Below.cell hb (World.block_lt_of_cell? _ _ q0)).trans q0; have hin : w3.heap[w2.heap.size]? = some (.cells #[.bool false, .slice none 0 0] 25 (0, 0)) := (hg.block _ (by simp) (show some w2.heap.size ≠ (Value.slice none 0 0).ownBlock by simp [Value.ownBlock])).trans (heap_alloc_new w2 _); have i0 := (blk_cell hin 0).trans rfl; have i1 := (blk_cell hin 1).trans rfl; have i2 := blk_frozen hin 0; have i3 := blk_frozen hin 1) | (refine Kd.R_append_rows_step k27 (w0 := w2) w2.heap.size rfl _ _ 23 27 (.agg #[(.bool false), (.int .i64 0), (.string ⟨#[]⟩)]) 32 rfl Try.underlying23 info27 rfl (by decide) (by omega) _ ([] : List S27) x0.f1 _ _ _ (fun _ => True) (fun _ => False) rfl rfl ?aO ?aR (fun _ _ h => h) (fun _ h => h.elim) ?aF ?aB ?aS ?aL ?_; (case aF => exact (fun _ _ => trivial)); (case aO => exact Kd.R_nil _ _ _ _ _); (case aL => simp only [List.length_nil]; omega); (case aR => exact hC2); (case aB => exact below_drew1 (Below.refl _ _)); (case aS => exact Nat.le_refl _); intro v1 w3 ho hb hg hat; obtain ⟨A1, cc1, hv1⟩ := Kd.R_slice ho; subst hv1; have r0 := (Below.cell hb (World.block_lt_of_cell? _ _ q0)).trans q0; have r0b := (Below.cell (below_alloc (Below.refl w3.heap.size w3) (.cells #[.bool false, .slice none 0 0] 25)) (World.block_lt_of_cell? _ _ r0)).trans r0))
      all_goals first
        | exact ⟨⟨w3.heap.size, A1, cc1⟩, rfl, hb.size, heap_alloc_new w3 _, Kd.R_below (Kd.R_mono (Kd.R_bound ho) (fun k hk e => by have := hk.2.2.1; omega)) (below_alloc (Below.refl _ _) _), below_alloc hb _⟩
        | exact ⟨⟨w2.heap.size, A1, cc1⟩, rfl, Nat.le_refl _, blk_set (blk_set hin 0 _) 1 _, R_setT (R_setT (Kd.R_mono (Kd.R_types ho hin (k27_E 25 (by decide))) (fun k hk => hk.2)) ⟨_, hin⟩ (by decide) _ _) ⟨_, blk_set hin 0 _⟩ (by decide) _ _, below_set (below_set hb (Nat.le_refl _)) (Nat.le_refl _)⟩
    · rintro ⟨inb, A1, cc1⟩ w4 ⟨hinb, hK4, hR4, hB4⟩
      dsimp only
      have HO2 := Aside0.mk H2.bound
      have hSZ4 : w2.heap.size ≤ w4.heap.size := hB4.size
      have HBW4 := Aside0.mk (below_then hb2 hb2.size hB4)
      have HS4 := Aside0.mk (HO2.out.below hB4)
      have HR4 := Aside0.mk hR4
      have HK4 := Aside0.mk hK4
      have hlpos : 0 < x0.f1.length := by omega
      obtain ⟨g4, cur4, hA4, hg4, hg4b, hg4l, _, hcc4, hgk4, hgs4⟩ := R_block hR4 hlpos
      subst hA4
      have HGK4 := Aside0.mk hgk4
      have hput := Put_T w1.heap.size x0 (some ⟨g4, 0, none⟩) cc1 [] _ w4 HS4.out (Kd.R_reads' hR4).2.2 (Kd.R_reads' hR4).2.1 hlpos (by omega) (by simp)
      have u0 := (blk_cell hK4 0).trans rfl
      have u1 := (blk_cell hK4 1).trans rfl
      clear hR4 hK4 hgk4 k0 k0a q0a q1a q0 q1 hC2 hC3 H2
      go_wp2_with fail
      refine hput.mono ?_
      rintro e w5 ⟨rfl, hF5, n5, H5, hd5⟩
      have hd5 : n5.map (·.d) = [x0] := hd5
      have hKi : Aside0 (w5.heap[inb]? = some (.cells #[.bool x0.f0, .slice (some ⟨g4, 0, none⟩) x0.f1.length cc1] 25 (0, 0))) := ⟨(hF5.block inb (Array.getElem?_eq_some_iff.1 HK4.out).1 (fun h => by have := h.2; omega)).trans HK4.out⟩
      have hKg : Aside0 (w5.heap[g4]? = some (.cells cur4 27 (0, 0))) := ⟨(hF5.block g4 hg4l (fun h => by have := h.2; omega)).trans HGK4.out⟩
      have HBW5 := Aside0.mk (below_fr HBW4.out hF5 (fun k hk => hk.1))
      have HH5 := Aside0.mk H5
      have HD5 := Aside0.mk hd5
      have u0 := (blk_cell hKi.out 0).trans rfl
      have u1 := (blk_cell hKi.out 1).trans rfl
      have z1 := blk_below Hk1.out HBW5.out
      have v0 := (blk_cell z1 0).trans rfl
      have v1 := (blk_cell z1 1).trans rfl
      have v2 := (blk_cell z1 2).trans rfl
      clear hput hF5 H5 hd5 z1
      obtain ⟨m, hmm⟩ : ∃ m, m + 1 = x0.f1.length := ⟨x0.f1.length - 1, by omega⟩
      have hmi : (x0.f1.length : Int) - 1 = (m : Int) := by omega
      have hm0 : (0 : Int) ≤ (m : Int) := by omega
      have hm1 : (m : Int) < (x0.f1.length : Int) := by omega
      have hcsz : m * 3 + 2 < cur4.size := by omega
      have s0 : w5.cell? ⟨g4, m * 3, none⟩ = some cur4[m * 3]! := by rw [blk_cell hKg.out, getElem!_pos cur4 (m * 3) (by omega)]; exact Array.getElem?_eq_getElem _
      have s1 : w5.cell? ⟨g4, m * 3 + 1, none⟩ = some cur4[m * 3 + 1]! := by rw [blk_cell hKg.out, getElem!_pos cur4 (m * 3 + 1) (by omega)]; exact Array.getElem?_eq_getElem _
      have s2 : w5.cell? ⟨g4, m * 3 + 2, none⟩ = some cur4[m * 3 + 2]! := by rw [blk_cell hKg.out, getElem!_pos cur4 (m * 3 + 2) (by omega)]; exact Array.getElem?_eq_getElem _
      have t0 := blk_frozen hKg.out (m * 3)
      have t1 := blk_frozen hKg.out (m * 3 + 1)
      have t2 := blk_frozen hKg.out (m * 3 + 2)
      have hg41 : w1.heap.size ≤ g4 := Nat.le_trans hb2.size hg4b
      have hB6 := below_set (j := m * 3 + 2) (v := .string x1.f2) (below_set (j := m * 3 + 1) (v := .int .i64 x1.f1) (below_set (j := m * 3) (v := .bool x1.f0) HBW5.out hg41) hg41) hg41
      have hS6 := HH5.out.keep (w1 := ((w5.setCell ⟨g4, m * 3, none⟩ (.bool x1.f0)).setCell ⟨g4, m * 3 + 1, none⟩ (.int .i64 x1.f1)).setCell ⟨g4, m * 3 + 2, none⟩ (.string x1.f2)) (fun k hk hkl => by
        have hne : k ≠ g4 := by
          rintro rfl
          rcases hk with hk | hk
          · have := hk.2; omega
          · omega
        exact (Sk.heap_set_ne _ _ _ _ _ hne).trans ((Sk.heap_set_ne _ _ _ _ _ hne).trans (Sk.heap_set_ne _ _ _ _ _ hne)))
      have y0 := blk_below Hk0.out hB6
      have hC6 := Kd.C_below HC.out (below_then HB.out HB.out.size hB6)
      obtain ⟨ad, eA, p0, p1, p2⟩ := at_T27 hC6 (0 : Int) (by omega) (by omega)
      subst eA
      have p0 := (show _ = some (Value.bool (keyT x0).f0) by simpa [Addr.add, keyT] using p0)
      have p1 := (show _ = some (Value.int .i64 (keyT x0).f1) by simpa [Addr.add, keyT] using p1)
      have p2 := (show _ = some (Value.string (keyT x0).f2) by simpa [Addr.add, keyT] using p2)
      have y1 := (blk_cell y0 1).trans rfl
      have hlz0 : (0 : Int) < (x0.f1.length : Int) := by omega
      have HB6 := Aside0.mk hB6
      have HS6 := Aside0.mk hS6
      clear hB6 hS6 y0 hC6
      go_wp2_with fail
      have HAD := Aside0.mk HC.out
      clear s0 s1 s2 t0 t1 t2 u0 u1 v0 v1 v2 hcsz
      generalize ((w5.setCell ⟨g4, m * 3, none⟩ (.bool x1.f0)).setCell ⟨g4, m * 3 + 1, none⟩ (.int .i64 x1.f1)).setCell ⟨g4, m * 3 + 2, none⟩ (.string x1.f2) = w6 at *
      have HS6b := Aside0.mk HS6.out.bound
      have hlens : ∀ n ∈ n5, n.d.f1.length ≤ 4398046511103 := fun n hn => by
        have : n.d ∈ n5.map (·.d) := List.mem_map_of_mem hn
        rw [HD5.out] at this
        simp only [List.mem_cons, List.not_mem_nil, or_false] at this
        rw [this]; omega
      have HLN := Aside0.mk hlens
      clear hlens
      refine (Get_T _ (keyT x0) n5 _ w6 HS6b.out HLN.out).mono ?_
      rintro e w7 ⟨hb7, hG⟩
      rw [HD5.out, getSelf] at hG
      obtain ⟨v7, rfl, hR7⟩ := hG
      obtain ⟨A7, c7, rfl⟩ := Kd.R_slice hR7
      obtain ⟨g7, cur7, hA7, _, hg7b, hg7l, _, hcc7, hgk7, hgs7⟩ := R_block hR7 hlpos
      subst hA7
      have b8 := below_alloc (Below.refl w7.heap.size w7) (.cells #[.bool x0.f0, .slice (some ⟨g7, 0, none⟩) x0.f1.length c7] 25)
      have K8 := heap_alloc_new w7 (.cells #[.bool x0.f0, .slice (some ⟨g7, 0, none⟩) x0.f1.length c7] 25)
      have B8 := Aside0.mk (below_then HB6.out HB6.out.size (below_then hb7 hb7.size b8))
      have S8 := Aside0.mk (HS6b.out.below (below_then hb7 hb7.size b8))
      have HK8 := Aside0.mk K8
      have HG7 := Aside0.mk (blk_below hgk7 b8)
      have q0 := (blk_cell (blk_below Hk0.out B8.out) 0).trans rfl
      have q1 := (blk_cell (blk_below Hk0.out B8.out) 1).trans rfl
      have hsame := same_T x0.f0 (some ⟨g7, 0, none⟩) c7 x0.f1 x0.f0 (some ad) c0_1 x0.f1 (w7.alloc (.cells #[.bool x0.f0, .slice (some ⟨g7, 0, none⟩) x0.f1.length c7] 25)) (Kd.C_below (Kd.R_reads' hR7).2.2 b8) hcc7 (Kd.C_below HC.out (below_then HB.out HB.out.size B8.out)) hc0_1
      rw [sameV_self, beq_self_eq_true, Bool.true_and] at hsame
      have hz8 : (w7.alloc (.cells #[.bool x0.f0, .slice (some ⟨g7, 0, none⟩) x0.f1.length c7] 25)).heap.size = w7.heap.size + 1 := by simp
      have HZ8 := Aside0.mk hz8
      have HB7 := Aside0.mk hb7
      have HL7 := Aside0.mk hg7l
      have HH7 := Aside0.mk hg7b
      clear hb7 hR7 hgk7 b8 K8 hz8 p0 p1 p2 y1
      go_wp2_with fail
      refine hsame.mono ?_
      rintro e w9 ⟨rfl, hb9⟩
      clear hsame q0 q1
      have B9 := Aside0.mk (below_then B8.out B8.out.size hb9)
      have S9 := Aside0.mk (S8.out.below hb9)
      have k9 := blk_below HK8.out hb9
      have u0 := (blk_cell k9 0).trans rfl
      have u1 := (blk_cell k9 1).trans rfl
      have hG9 := blk_below HG7.out hb9
      have z1 := blk_below Hk1.out B9.out
      have v0 := (blk_cell z1 0).trans rfl
      have v1 := (blk_cell z1 1).trans rfl
      have v2 := (blk_cell z1 2).trans rfl
      have hcsz : 2 < cur7.size := by omega
      have s0 : w9.cell? ⟨g7, 0, none⟩ = some cur7[0]! := by rw [blk_cell hG9, getElem!_pos cur7 0 (by omega)]; exact Array.getElem?_eq_getElem _
      have s1 : w9.cell? ⟨g7, 1, none⟩ = some cur7[1]! := by rw [blk_cell hG9, getElem!_pos cur7 1 (by omega)]; exact Array.getElem?_eq_getElem _
      have s2 : w9.cell? ⟨g7, 2, none⟩ = some cur7[2]! := by rw [blk_cell hG9, getElem!_pos cur7 2 (by omega)]; exact Array.getElem?_eq_getElem _
      have t0 := blk_frozen hG9 0
      have t1 := blk_frozen hG9 1
      have t2 := blk_frozen hG9 2
      have hg71 : w1.heap.size ≤ g7 := Nat.le_trans HB6.out.size HH7.out
      have hB10 := below_set (j := 2) (v := .string x1.f2) (below_set (j := 1) (v := .int .i64 x1.f1) (below_set (j := 0) (v := .bool x1.f0) B9.out hg71) hg71) hg71
      have hS10 := S9.out.keep (w1 := ((w9.setCell ⟨g7, 0, none⟩ (.bool x1.f0)).setCell ⟨g7, 1, none⟩ (.int .i64 x1.f1)).setCell ⟨g7, 2, none⟩ (.string x1.f2)) (fun k hk hkl => by
        have hne : k ≠ g7 := by have := hk.2; have := HH7.out; omega
        exact (Sk.heap_set_ne _ _ _ _ _ hne).trans ((Sk.heap_set_ne _ _ _ _ _ hne).trans (Sk.heap_set_ne _ _ _ _ _ hne)))
      have y0 := blk_below Hk0.out hB10
      have hC10 := Kd.C_below HC.out (below_then HB.out HB.out.size hB10)
      obtain ⟨ad', eA, p0, p1, p2⟩ := at_T27 hC10 (0 : Int) (by omega) (by omega)
      cases eA
      have p0 := (show _ = some (Value.bool (keyT x0).f0) by simpa [Addr.add, keyT] using p0)
      have p1 := (show _ = some (Value.int .i64 (keyT x0).f1) by simpa [Addr.add, keyT] using p1)
      have p2 := (show _ = some (Value.string (keyT x0).f2) by simpa [Addr.add, keyT] using p2)
      have y1 := (blk_cell y0 1).trans rfl
      have HB10 := Aside0.mk hB10
      have HS10 := Aside0.mk hS10
      clear hB10 hS10 y0 hC10 k9 hG9 z1 hb9
      go_wp2_with fail
      clear s0 s1 s2 t0 t1 t2 u0 u1 v0 v1 v2 hcsz
      generalize ((w9.setCell ⟨g7, 0, none⟩ (.bool x1.f0)).setCell ⟨g7, 1, none⟩ (.int .i64 x1.f1)).setCell ⟨g7, 2, none⟩ (.string x1.f2) = w10 at *
      refine (Get_T _ (keyT x0) n5 _ w10 HS10.out HLN.out).mono ?_
      rintro e w11 ⟨hb11, hG⟩
      rw [HD5.out, getSelf] at hG
      obtain ⟨v11, rfl, hR11⟩ := hG
      obtain ⟨A11, c11, rfl⟩ := Kd.R_slice hR11
      have b12 := below_alloc (Below.refl w11.heap.size w11) (.cells #[.bool x0.f0, .slice A11 x0.f1.length c11] 25)
      have B12 := Aside0.mk (below_then HB10.out HB10.out.size (below_then hb11 hb11.size b12))
      have q0 := (blk_cell (blk_below Hk0.out B12.out) 0).trans rfl
      have q1 := (blk_cell (blk_below Hk0.out B12.out) 1).trans rfl
      have hsame := same_T x0.f0 A11 c11 x0.f1 x0.f0 (some ad) c0_1 x0.f1 (w11.alloc (.cells #[.bool x0.f0, .slice A11 x0.f1.length c11] 25)) (Kd.C_below (Kd.R_reads' hR11).2.2 b12) (Kd.R_reads' hR11).2.1 (Kd.C_below HC.out (below_then HB.out HB.out.size B12.out)) hc0_1
      rw [sameV_self, beq_self_eq_true, Bool.true_and] at hsame
      clear hb11 hR11 b12 p0 p1 p2 y1
      go_wp2_with fail
      refine hsame.mono ?_
      rintro e w13 ⟨rfl, hb13⟩
      have B13 := Aside0.mk (below_then HB.out HB.out.size (below_then B12.out B12.out.size hb13))
      clear hsame hb13
      go_wp2
      go_ret
      exact ⟨rfl, B13.out⟩
end Go.Proofs.Ytnfliommpdjlkaa.Pr
