/- The law SkipOrder: its walk. -/
import Derived.Test.YtnfliommpdjlkaaSkFou
import Derived.Deep.RegionWith
import Derived.RangeFuncNested
import Derived.Sort.LoopGhostIn
import Derived.Stop.RegionWithIn
import Derived.RegionIn
import Derived.RangeFuncBound
import Derived.RangeFuncCalls
import Derived.RangeFuncLeaves
import Derived.OwnWalkIn
import Derived.TacticsInMore
import Derived.LoopNIn
import Derived.LoopIn
import Derived.Shelf.AbstractIn
namespace Go.Proofs.Ytnfliommpdjlkaa.Pr
open Go.RowKit Go.Proofs.Ytnfliommpdjlkaa.Brid Go.Proofs.YtnfliommpdjlkaaW.PrintWords Go.Proofs.YtnfliommpdjlkaaW.PrintLast Go.Proofs.YtnfliommpdjlkaaW.PrintMore
set_option linter.unusedVariables false
set_option linter.unusedSimpArgs false
set_option maxHeartbeats 4000000
set_option maxRecDepth 100000
attribute [local go_sem] Oper.semAt_some
theorem cmp_eqK (a b : S27) : Thy.cmpV a.f0 a.f1 a.f2 b.f0 b.f1 b.f2 = 0 ↔ eqK a b = true := by
  rw [eqK_iff]
  unfold lessT Thy.cmpV
  cases h1 : Thy.less a.f0 a.f1 a.f2 b.f0 b.f1 b.f2 <;> cases h2 : Thy.less b.f0 b.f1 b.f2 a.f0 a.f1 a.f2 <;> simp
theorem SkipOrder_walk (W : World) (a0 : Int) (b0 : (Lit.int .u64 a0).wf = true) (A1 : Option Addr) (c1 : Nat) (l1 : List (S25)) (hc1 : l1.length ≤ c1) (hr1 : Kd.C k25 W A1 l1.length l1) (b1 : BL B25 l1 1048576) :
    Calls Try.prog 11 #[.int .u64 a0, .slice A1 l1.length c1] W fun e W' => e = .returned (.bool true) ∧ Below W.heap.size W W' := by
  have hlens : ∀ d ∈ l1.take 400, d.f1.length ≤ 4398046511103 := fun d hd => by
    have : d.f1.length ≤ 1048576 := (b1.2 d (List.mem_of_mem_take hd)).2.1
    omega
  have hstrs : ∀ d ∈ l1.take 400, ∀ v ∈ d.f1, v.f2.size ≤ 1048576 := fun d hd v hv => ((b1.2 d (List.mem_of_mem_take hd)).2.2 v hv).2.2
  have hl400 : (l1.take 400).length ≤ 400 := by rw [List.length_take]; omega
  generalize hps : l1.take 400 = ps at *
  have B1 := below_alloc (Below.refl W.heap.size W) (.cells #[.bool false] 4)
  have K1 := heap_alloc_new W (.cells #[.bool false] 4)
  have HC0 := Aside0.mk hr1
  have HB1 := Aside0.mk B1
  have HK1 := Aside0.mk K1
  have HLENS := Aside0.mk hlens
  have HPS := Aside0.mk hps
  have HSTRS := Aside0.mk hstrs
  clear B1 K1 hr1 b0 b1 hlens hps hstrs
  refine (callsIn_wide (n := 1)).1 (callsIn_of_wp_marks Try.func11 rfl trivial ?_ rfl)
  simp only [Try.ntmps11, List.size_toArray, List.length_cons, List.length_nil, Nat.reduceAdd, Nat.reduceSub, Array.replicate_succ, Array.replicate_zero, List.push_toArray, List.append_toArray, List.nil_append, List.cons_append]
  refine wpIn_wide.2 ?_
  go_wp2_with fail
  refine (lives_T _).mono ?_
  rintro e w1 ⟨rfl, hb1⟩
  have HB2 := Aside0.mk (below_then HB1.out HB1.out.size hb1)
  have HK2 := Aside0.mk (blk_below HK1.out hb1)
  clear hb1 HB1 HK1
  go_wp2_with fail
  refine (early_T A1 c1 l1 w1 (Kd.C_below HC0.out HB2.out) hc1).mono ?_
  rintro e we ⟨A, c, rfl, hce, hCe, hbe⟩
  rw [HPS.out] at hce hCe ⊢
  have HBe := Aside0.mk (below_then HB2.out HB2.out.size hbe)
  have HKe := Aside0.mk (blk_below HK2.out hbe)
  have HCe := Aside0.mk hCe
  clear hbe hCe HB2 HK2 HC0
  go_wp2_with fail
  refine (New_T a0 we).mono ?_
  rintro e w2 ⟨rfl, hb2, H2⟩
  have HL2 : Aside0 (SkL w2 (fun k => we.heap.size ≤ k) we.heap.size []) := ⟨H2⟩
  have HBl := Aside0.mk hb2
  clear hb2 H2
  go_wp2
  go_loopg [6] ps.length (fun kx a wr => ∃ (i : Nat) (ns : List (Sk.Nd S25)), a = .int .i64 i ∧ i ≤ ps.length ∧ ps.length - i ≤ kx ∧ Aside0 (SkL wr (fun k => we.heap.size ≤ k) we.heap.size ns) ∧ Aside0 (ns.map (·.d) = putsV (ps.take i)) ∧ Aside0 (Below we.heap.size we wr))
  case atStart => exact ⟨0, [], rfl, Nat.zero_le _, by omega, HL2, ⟨rfl⟩, HBl⟩
  case round =>
    clear HL2 HBl
    obtain ⟨i, ns, rfl, hi, hkx, HL, HD, HB⟩ := hrel
    by_cases hlt : i < ps.length
    · have hltz : (i : Int) < (ps.length : Int) := by omega
      have hiz : (0 : Int) ≤ (i : Int) := by omega
      obtain ⟨ad, Ar, cr, eA, x0, x1, hcr, hCr⟩ := at_T25 (Kd.C_below HCe.out HB.out) (i : Int) hiz hltz
      cases eA
      have hd : rd_T25 ps (i : Int) = ps[i] := rdD_at ps i hlt
      rw [hd] at x0 x1 hcr hCr
      have hnl : ns.length ≤ 400 := by
        have h1 := congrArg List.length HD.out
        have h2 := putsV_len (ps.take i)
        rw [List.length_map] at h1
        rw [List.length_take] at h2
        omega
      have hput := PutAny_T we.heap.size ps[i] Ar cr ns (ps.take i) _ wr HL.out hCr hcr (HLENS.out _ (List.getElem_mem hlt)) (by omega) HD.out
      have HE : Aside0 (ps.take (i + 1) = ps.take i ++ [ps[i]]) := ⟨List.take_succ_eq_append_getElem hlt⟩
      simp only [Int.toNat_natCast] at x0 x1
      clear hd hcr hCr hnl
      generalize ps[i] = d at *
      go_wp2_with fail
      refine hput.mono ?_
      rintro e w3 ⟨rfl, hF, ns', H', hd'⟩
      rw [← HE.out] at hd'
      have HL' := Aside0.mk (H'.mono (O' := fun k => we.heap.size ≤ k) (fun k hk => by
        rcases hk with hk | hk
        · exact hk
        · exact Nat.le_trans HB.out.size hk))
      have HD' := Aside0.mk hd'
      have HB' := Aside0.mk (below_fr HB.out hF (fun k hk => hk))
      clear hput hF H' hd' x0 x1
      go_wp2
      go_roundg (ps.length - (i + 1))
      case measure => omega
      case rel => exact ⟨i + 1, ns', by go_num, by omega, by omega, HL', HD', HB'⟩
    · have hie : i = ps.length := by omega
      have hltz : ¬ (i : Int) < (ps.length : Int) := by omega
      have HD' : Aside0 (ns.map (·.d) = putsV ps) := ⟨by rw [HD.out, hie, List.take_length]⟩
      clear HD
      go_wp2_with fail
      have b5 : Below wr.heap.size wr ((wr.alloc (.cells #[.int .i64 0] 3)).alloc (.cells #[.bool false, .int .i64 0, .string ⟨#[]⟩] 27)) := below_alloc (below_alloc (Below.refl _ _) _) _
      have z5 : ((wr.alloc (.cells #[.int .i64 0] 3)).alloc (.cells #[.bool false, .int .i64 0, .string ⟨#[]⟩] 27)).heap.size = wr.heap.size + 2 := by simp
      have kn : ((wr.alloc (.cells #[.int .i64 0] 3)).alloc (.cells #[.bool false, .int .i64 0, .string ⟨#[]⟩] 27)).heap[wr.heap.size]? = some (.cells #[.int .i64 0] 3 (0, 0)) := blk_alloc (heap_alloc_new wr _) _
      have kl : ((wr.alloc (.cells #[.int .i64 0] 3)).alloc (.cells #[.bool false, .int .i64 0, .string ⟨#[]⟩] 27)).heap[wr.heap.size + 1]? = some (.cells (cellsT z27) 27 (0, 0)) := by
        have := heap_alloc_new (wr.alloc (.cells #[.int .i64 0] 3)) (.cells #[.bool false, .int .i64 0, .string ⟨#[]⟩] 27)
        rwa [show (wr.alloc (.cells #[.int .i64 0] 3)).heap.size = wr.heap.size + 1 by simp] at this
      have HB5 := Aside0.mk (below_then HB.out HB.out.size b5)
      have HL5 := Aside0.mk (HL.out.bound.below b5)
      have HN5 := Aside0.mk kn
      have HLB5 := Aside0.mk kl
      have HZ5 := Aside0.mk z5
      have HWR := Aside0.mk HB.out.size
      clear b5 z5 kn kl HB HL
      generalize ((wr.alloc (.cells #[.int .i64 0] 3)).alloc (.cells #[.bool false, .int .i64 0, .string ⟨#[]⟩] 27)) = w5 at *
      refine (All_T we.heap.size w5).mono ?_
      rintro e w6 ⟨rfl, hw6⟩
      have b6 : Below w5.heap.size w5 w6 := by rw [hw6]; exact below_alloc (Below.refl _ _) _
      have kg : w6.heap[w5.heap.size]? = some (.cells #[.pointer (some ⟨we.heap.size, 0, none⟩)] 66 (0, 0)) := by rw [hw6]; exact heap_alloc_new w5 _
      have HZ6 : Aside0 (w6.heap.size = w5.heap.size + 1) := ⟨by rw [hw6]; simp⟩
      have HB6 := Aside0.mk (below_then HB5.out HB5.out.size b6)
      have HL6 := Aside0.mk (HL5.out.below b6)
      have HN6 := Aside0.mk (blk_below HN5.out b6)
      have HLB6 := Aside0.mk (blk_below HLB5.out b6)
      have HKG := Aside0.mk kg
      clear b6 kg hw6 HB5 HL5 HN5 HLB5
      have hOb : ∀ k, (we.heap.size ≤ k ∧ k < wr.heap.size) → k < w6.heap.size ∧ ¬ (k = wr.heap.size ∨ k = wr.heap.size + 1 ∨ k = w6.heap.size ∨ k = w6.heap.size + 1) := fun k hk => by
        have := HZ5.out; have := HZ6.out; omega
      have hXl : ∀ k, (k = wr.heap.size ∨ k = wr.heap.size + 1 ∨ k = w6.heap.size ∨ k = w6.heap.size + 1) → k < w6.heap.size + 2 := fun k hk => by
        have := HZ5.out; have := HZ6.out; omega
      have hlenns : ∀ n ∈ ns, n.d.f1.length ≤ 4398046511103 := fun n hn => by
        have : n.d ∈ ns.map (·.d) := List.mem_map_of_mem hn
        rw [HD'.out] at this
        exact HLENS.out _ (putsV_mem this).1
      have hgiv := given_G we.heap.size w5.heap.size [] ns (fun k => we.heap.size ≤ k ∧ k < wr.heap.size) (fun k => k = wr.heap.size ∨ k = wr.heap.size + 1 ∨ k = w6.heap.size ∨ k = w6.heap.size + 1) _ _ w6 HL6.out.m HL6.out.pos hlenns HKG.out (by have := HZ5.out; have := HZ6.out; omega) hOb hXl
      rw [HD'.out] at hgiv
      have HGIV := Aside0.mk hgiv
      have HOB := Aside0.mk hOb
      have HXL := Aside0.mk hXl
      have HLN := Aside0.mk hlenns
      clear hgiv hOb hXl hlenns
      go_wp2
      refine wp_rangeH (gf := 56) (lb := #[.pointer (some ⟨w5.heap.size, 0, none⟩)]) rfl (enters_of Try.func56 (by kernel_rfl) rfl)
        HGIV.out (.inr (.inr (.inl rfl))) (.inr (.inr (.inr rfl))) (fun _ => rfl)
        (OrdI we wr ns)
        (fun cd pre V => False) ?hI (fun cd s A B row h _ _ => h) ⟨HN6.out, ⟨z27, fun x hx => by simp at hx, HLB6.out⟩, HL6.out, HB6.out⟩ ?round ?done (fun cd pre V _ h _ => h.elim)
      case hI =>
        rintro s A B row ⟨h1, ⟨lk, h2, h3⟩, h4, h5⟩ hg hr
        exact ⟨ownFrom_blk () A B row h1 hg hr, ⟨lk, h2, ownFrom_blk () A B row h3 hg hr⟩, ownFrom_SkL (fun k hk => (HOB.out k hk).1) () A B row h4 hg hr, ownFrom_below (Nat.le_refl _) HB6.out.size () A B row h5 hg hr⟩
      case round =>
        rintro l2 pre ⟨d, v⟩ V K ⟨h1, ⟨lk, h2, h3⟩, h4, h5⟩ ⟨hpre, hR⟩ hV hK
        have hR : Kd.R k27 27 V w6.heap.size (fun _ => True) v d.f1 := hR
        have hpre : pre.map (·.1) ++ [d] <+: putsV ps := hpre
        obtain ⟨Av, cv, hv⟩ := Kd.R_slice hR
        subst hv
        have hdm : d.f1.length ≠ 0 := (putsV_mem (hpre.subset (List.mem_append_right _ (List.mem_singleton.2 rfl)))).2
        have hlen : 0 < d.f1.length := by omega
        obtain ⟨g, cur, hA, _, _, hgl, _, hcv, hgk, _⟩ := R_block hR hlen
        subst hA
        have HR := Aside0.mk hR
        have H1 := Aside0.mk h1
        have H3 := Aside0.mk h3
        have H4 := Aside0.mk h4
        have H5 := Aside0.mk h5
        have H2 := Aside0.mk h2
        have HPRE := Aside0.mk hpre
        have HKK := Aside0.mk hK
        clear hR h1 h2 h3 h4 h5 hpre hK hdm hgk
        gi_wp2
        refine HKK.out _ _ (fun U => U.heap[V.heap.size]? = some (.cells #[.bool d.f0, .slice (some ⟨g, 0, none⟩) d.f1.length cv] 25 (0, 0)) ∧ Kd.R k27 27 U w6.heap.size (fun _ => True) (.slice (some ⟨g, 0, none⟩) d.f1.length cv) d.f1 ∧ U.heap[wr.heap.size]? = some (.cells #[.int .i64 pre.length] 3 (0, 0)) ∧ U.heap[wr.heap.size + 1]? = some (.cells (cellsT lk) 27 (0, 0)) ∧ SkL U (fun k => we.heap.size ≤ k ∧ k < wr.heap.size) we.heap.size ns ∧ Below we.heap.size we U)
          ?zo ⟨heap_alloc_new V _, Kd.R_below HR.out (below_alloc (Below.refl _ _) _), blk_alloc H1.out _, blk_alloc H3.out _, H4.out.below (below_alloc (Below.refl _ _) _), below_alloc H5.out _⟩ ((KeepsOthers.alloc _ _).from _) (Fr.of_below (below_alloc (Below.refl _ _) _)) ?_
        case zo =>
          rintro s A B row ⟨q1, q2, q3, q4, q5, q6⟩ hg hr
          exact ⟨ownFrom_blk () A B row q1 hg hr, ownFrom_R () A B row q2 hg hr, ownFrom_blk () A B row q3 hg hr, ownFrom_blk () A B row q4 hg hr, ownFrom_SkL (fun k hk => (HOB.out k hk).1) () A B row q5 hg hr, ownFrom_below (Nat.le_refl _) HB6.out.size () A B row q6 hg hr⟩
        rintro U ⟨q1, q2, q3, q4, q5, q6⟩ hUs
        have hz1 : (0 : Int) < (d.f1.length : Int) := by omega
        have hz2 : ¬ (d.f1.length : Int) = 0 := by omega
        have hz3 : ((d.f1.length : Int) == 0) = false := beq_eq_false_iff_ne.2 hz2
        obtain ⟨ad, eA, p0, p1, p2⟩ := at_T27 (Kd.R_reads' q2).2.2 (0 : Int) (by omega) hz1
        cases eA
        have p0 := (show U.cell? ⟨g, 0, none⟩ = some (Value.bool (keyT d).f0) by simpa [Addr.add, keyT] using p0)
        have p1 := (show U.cell? ⟨g, 1, none⟩ = some (Value.int .i64 (keyT d).f1) by simpa [Addr.add, keyT] using p1)
        have p2 := (show U.cell? ⟨g, 2, none⟩ = some (Value.string (keyT d).f2) by simpa [Addr.add, keyT] using p2)
        have c1 := (blk_cell q1 1).trans rfl
        have n0 := (blk_cell q3 0).trans rfl
        have l0 := (blk_cell q4 0).trans rfl
        have l1_ := (blk_cell q4 1).trans rfl
        have l2_ := (blk_cell q4 2).trans rfl
        have Q1 := Aside0.mk q1
        have Q2 := Aside0.mk q2
        have Q3 := Aside0.mk q3
        have Q4 := Aside0.mk q4
        have Q5 := Aside0.mk q5
        have Q6 := Aside0.mk q6
        generalize hln : d.f1.length = ln at *
        have HLN2 := Aside0.mk hln
        clear q1 q2 q3 q4 q5 q6 hln
        have L0 : ∀ s : SomeW U, s.W.cell? ⟨V.heap.size, 1, none⟩ = some (.slice (some ⟨g, 0, none⟩) ln cv) := fun s => cell_some c1 s
        have L1 : ∀ s : SomeW U, s.W.cell? ⟨wr.heap.size, 0, none⟩ = some (.int .i64 pre.length) := fun s => cell_some n0 s
        have L2 : ∀ s : SomeW U, s.W.cell? ⟨wr.heap.size + 1, 0, none⟩ = some (.bool lk.f0) := fun s => cell_some l0 s
        have L3 : ∀ s : SomeW U, s.W.cell? ⟨wr.heap.size + 1, 1, none⟩ = some (.int .i64 lk.f1) := fun s => cell_some l1_ s
        have L4 : ∀ s : SomeW U, s.W.cell? ⟨wr.heap.size + 1, 2, none⟩ = some (.string lk.f2) := fun s => cell_some l2_ s
        have L5 : ∀ s : SomeW U, s.W.cell? ⟨g, 0, none⟩ = some (.bool (keyT d).f0) := fun s => cell_some p0 s
        have L6 : ∀ s : SomeW U, s.W.cell? ⟨g, 1, none⟩ = some (.int .i64 (keyT d).f1) := fun s => cell_some p1 s
        have L7 : ∀ s : SomeW U, s.W.cell? ⟨g, 2, none⟩ = some (.string (keyT d).f2) := fun s => cell_some p2 s
        have hzN : 0 < ln := by omega
        clear c1 n0 l0 l1_ l2_
        rcases pre.eq_nil_or_concat with hpn | ⟨ini, last, hpn⟩
        · have hp0 : (pre.length : Int) = 0 := by rw [hpn]; rfl
          have hp1 : ¬ (pre.length : Int) > 0 := by omega
          have hp2 : decide ((pre.length : Int) > 0) = false := decide_eq_false hp1
          have hp4 : ¬ 0 < pre.length := by omega
          clear hpn hp0
          gi_wp2
          refine wpIn_region_quiet_some mixed_T (by kernel_rfl) (by kernel_rfl) (by rintro ⟨_, _, h⟩; exact h) ?_
          repeat (go_big_quiet_step (fail))
          clear hp1 hp2 hp4
          refine wpQuiet_nil ?_
          intro U3 hw'
          obtain ⟨p_, hp_⟩ := hw'
          have hbU : Below U.heap.size U U3 := by rw [hp_]; exact p_.h
          clear hp_ p_ L0 L1 L2 L3 L4 L5 L6 L7
          have hn400 : pre.length ≤ 400 := by
            have h1 := HPRE.out.length_le
            have h2 := putsV_len ps
            simp at h1; omega
          have e0 := (blk_cell (blk_below Q1.out hbU) 1).trans rfl
          have m0 := (blk_cell (blk_below Q3.out hbU) 0).trans rfl
          have mf := blk_frozen (blk_below Q3.out hbU) 0
          have k0 := (blk_cell (blk_below Q4.out hbU) 0).trans rfl
          have k1 := (blk_cell (blk_below Q4.out hbU) 1).trans rfl
          have k2 := (blk_cell (blk_below Q4.out hbU) 2).trans rfl
          have kf0 := blk_frozen (blk_below Q4.out hbU) 0
          have kf1 := blk_frozen (blk_below Q4.out hbU) 1
          have kf2 := blk_frozen (blk_below Q4.out hbU) 2
          have r0 := (Below.cell hbU (World.block_lt_of_cell? _ _ p0)).trans p0
          have r1 := (Below.cell hbU (World.block_lt_of_cell? _ _ p1)).trans p1
          have r2 := (Below.cell hbU (World.block_lt_of_cell? _ _ p2)).trans p2
          have HBU := Aside0.mk hbU
          clear hbU p0 p1 p2
          gi_wp2
          exact ordFin Q3.out Q4.out Q5.out Q6.out HWR.out HBU.out (.inl rfl) (.inr (.inl rfl)) (by first | rfl | omega)
        · have hp1 : (pre.length : Int) > 0 := by rw [hpn]; simp
          have hp2 : decide ((pre.length : Int) > 0) = true := decide_eq_true hp1
          have hp4 : 0 < pre.length := by omega
          have hlk : lk = keyT last.1 := H2.out last (by rw [hpn]; simp)
          have hprf : ini.map (·.1) ++ [last.1] ++ [d] <+: putsV ps := by have := HPRE.out; rw [hpn] at this; simpa using this
          have hless : lessT lk (keyT d) = true := by
            have hs := (putsV_sorted ps).sublist hprf.sublist
            have := (List.pairwise_append.1 hs).2.2 last.1 (by simp) d (by simp)
            rw [hlk]; exact this
          have hlm : last.1 ∈ putsV ps := hprf.subset (by simp)
          have hsz : lk.f2.size ≤ 9223372036854775807 := by
            have h1 := putsV_mem hlm
            have := HSTRS.out last.1 h1.1 _ (keyT_mem (Nat.pos_of_ne_zero h1.2))
            rw [hlk]; omega
          have hah := fun V1 => ahead_T lk (keyT d) V1 hsz
          rw [hless] at hah
          clear hpn hlk hprf hless hlm hsz
          gi_wp2
          refine wpIn_region_quiet_some mixed_T (by kernel_rfl) (by kernel_rfl) (by rintro ⟨_, _, h⟩; exact h) ?_
          repeat (go_big_quiet_step (first | (go_at_call 36; refine Calls.below_some (hah _))))
          clear hp1 hp2 hp4 hah
          refine wpQuiet_nil ?_
          intro U3 hw'
          obtain ⟨p_, hp_⟩ := hw'
          have hbU : Below U.heap.size U U3 := by rw [hp_]; exact p_.h
          clear hp_ p_ L0 L1 L2 L3 L4 L5 L6 L7
          have hn400 : pre.length ≤ 400 := by
            have h1 := HPRE.out.length_le
            have h2 := putsV_len ps
            simp at h1; omega
          have e0 := (blk_cell (blk_below Q1.out hbU) 1).trans rfl
          have m0 := (blk_cell (blk_below Q3.out hbU) 0).trans rfl
          have mf := blk_frozen (blk_below Q3.out hbU) 0
          have k0 := (blk_cell (blk_below Q4.out hbU) 0).trans rfl
          have k1 := (blk_cell (blk_below Q4.out hbU) 1).trans rfl
          have k2 := (blk_cell (blk_below Q4.out hbU) 2).trans rfl
          have kf0 := blk_frozen (blk_below Q4.out hbU) 0
          have kf1 := blk_frozen (blk_below Q4.out hbU) 1
          have kf2 := blk_frozen (blk_below Q4.out hbU) 2
          have r0 := (Below.cell hbU (World.block_lt_of_cell? _ _ p0)).trans p0
          have r1 := (Below.cell hbU (World.block_lt_of_cell? _ _ p1)).trans p1
          have r2 := (Below.cell hbU (World.block_lt_of_cell? _ _ p2)).trans p2
          have HBU := Aside0.mk hbU
          clear hbU p0 p1 p2
          gi_wp2
          exact ordFin Q3.out Q4.out Q5.out Q6.out HWR.out HBU.out (.inl rfl) (.inr (.inl rfl)) (by first | rfl | omega)
      case done =>
        rintro xs V hxs ⟨h1, ⟨lk, h2, h3⟩, h4, h5⟩ hD
        have H1 := Aside0.mk h1
        have H4 := Aside0.mk h4
        have H5 := Aside0.mk h5
        have HD0 := Aside0.mk hD
        have HXS := Aside0.mk hxs
        clear h1 h2 h3 h4 h5 hD hxs
        obtain ⟨wl, rfl⟩ : ∃ wl, wl = wr := ⟨_, rfl⟩
        go_wp2
        go_loopg [10] ps.length (fun kx a wr => ∃ i2 : Nat, a = .int .i64 i2 ∧ i2 ≤ ps.length ∧ ps.length - i2 ≤ kx ∧ Aside0 (Below V.heap.size V wr))
        case atStart => exact ⟨0, rfl, Nat.zero_le _, by omega, ⟨Below.refl _ _⟩⟩
        case round =>
          obtain ⟨i2, rfl, hi2, hkx2, B2⟩ := hrel
          by_cases hlt : i2 < ps.length
          · have hltz2 : (i2 : Int) < (ps.length : Int) := by omega
            have hiz2 : (0 : Int) ≤ (i2 : Int) := by omega
            have HBWE := Aside0.mk (below_then H5.out H5.out.size B2.out)
            obtain ⟨ad, Ar, cr, eA, x0, x1, hcr, hCr⟩ := at_T25 (Kd.C_below HCe.out HBWE.out) (i2 : Int) hiz2 hltz2
            cases eA
            have hd : rd_T25 ps (i2 : Int) = ps[i2] := rdD_at ps i2 hlt
            rw [hd] at x0 x1 hcr hCr
            simp only [Int.toNat_natCast] at x0 x1
            by_cases hem : ps[i2].f1.length = 0
            · have hze : (ps[i2].f1.length : Int) = 0 := by omega
              have hzb : ((ps[i2].f1.length : Int) == 0) = true := by rw [hze]; rfl
              clear hd hcr hCr hem
              generalize ps[i2] = d at *
              go_wp2
              go_roundg (ps.length - (i2 + 1))
              case measure => omega
              case rel => exact ⟨i2 + 1, by go_num, by omega, by omega, B2⟩
            · have hze : ¬ (ps[i2].f1.length : Int) = 0 := by omega
              have hzb : ((ps[i2].f1.length : Int) == 0) = false := beq_eq_false_iff_ne.2 hze
              have hzp : (0 : Int) < (ps[i2].f1.length : Int) := by omega
              have hget := Get_T we.heap.size (keyT ps[i2]) ns _ wr (H4.out.below B2.out) HLN.out
              rw [HD'.out, get_newest ps i2 hlt hem] at hget
              have HKM := Aside0.mk (HSTRS.out _ (List.getElem_mem hlt) _ (keyT_mem (Nat.pos_of_ne_zero hem)))
              have HST : Aside0 (newestV ps i2 i2 = ps[i2]) := ⟨(newest_start ps i2).trans hd⟩
              have HSTEP : Aside0 (∀ j (hj : j < ps.length), i2 ≤ j → newestV ps i2 (j + 1) = if ps[j].f1.length = 0 then newestV ps i2 j else if eqK (keyT ps[j]) (keyT ps[i2]) = true then ps[j] else newestV ps i2 j) := ⟨fun j hj hij => by
                have := newest_step ps i2 j hij hj
                rwa [hd] at this⟩
              have HDI := Aside0.mk hd
              obtain ⟨ak, eK, y0, y1, y2⟩ := at_T27 (show Kd.C k27 wr Ar ps[i2].f1.length ps[i2].f1 from hCr) (0 : Int) (by omega) hzp
              cases eK
              have e0 : rd_T27 ps[i2].f1 (0 : Int) = keyT ps[i2] := rfl
              rw [e0] at y0 y1 y2
              have y0 : wr.cell? ak = some (Value.bool (keyT ps[i2]).f0) := y0
              have y1 : wr.cell? ⟨ak.block, ak.off + 1, none⟩ = some (Value.int .i64 (keyT ps[i2]).f1) := y1
              have y2 : wr.cell? ⟨ak.block, ak.off + 2, none⟩ = some (Value.string (keyT ps[i2]).f2) := y2
              have HX0 := Aside0.mk x0
              have HX1 := Aside0.mk x1
              have HCC := Aside0.mk hCr
              have HCI := Aside0.mk hcr
              clear hd hcr hCr hem HBWE
              generalize hnv : newestV ps i2 ps.length = nv at *
              have HNV := Aside0.mk hnv
              clear hnv
              clear e0
              go_wp2_with fail
              refine hget.mono ?_
              rintro e w7 ⟨hb7, v, rfl, hRv⟩
              obtain ⟨Av, cv, hvv⟩ := Kd.R_slice hRv
              subst hvv
              have x0 := (Below.cell hb7 (World.block_lt_of_cell? _ _ x0)).trans x0
              have x1 := (Below.cell hb7 (World.block_lt_of_cell? _ _ x1)).trans x1
              have HB7 := Aside0.mk (below_then B2.out B2.out.size hb7)
              have HRV := Aside0.mk hRv
              have x0 := fun o => (Below.cell (below_alloc (Below.refl w7.heap.size w7) o) (World.block_lt_of_cell? _ _ x0)).trans x0
              have x1 := fun o => (Below.cell (below_alloc (Below.refl w7.heap.size w7) o) (World.block_lt_of_cell? _ _ x1)).trans x1
              have HCC7 := Aside0.mk (Kd.C_below HCC.out hb7)
              have HWR7 : Aside0 (wr.heap.size ≤ w7.heap.size) := ⟨hb7.size⟩
              clear hget y0 y1 y2 hRv hb7 HX0 HX1
              generalize ps[i2] = di at *
              go_wp2
              have b8 : Below w7.heap.size w7 ((w7.alloc (.cells #[.bool nv.f0, .slice Av nv.f1.length cv] 25)).alloc (.cells #[.bool di.f0, .slice (some ak) di.f1.length cr] 25)) := below_alloc (below_alloc (Below.refl _ _) _) _
              have k11 : ((w7.alloc (.cells #[.bool nv.f0, .slice Av nv.f1.length cv] 25)).alloc (.cells #[.bool di.f0, .slice (some ak) di.f1.length cr] 25)).heap[w7.heap.size]? = some (.cells #[.bool nv.f0, .slice Av nv.f1.length cv] 25 (0, 0)) := blk_alloc (heap_alloc_new w7 _) _
              have k13 : ((w7.alloc (.cells #[.bool nv.f0, .slice Av nv.f1.length cv] 25)).alloc (.cells #[.bool di.f0, .slice (some ak) di.f1.length cr] 25)).heap[w7.heap.size + 1]? = some (.cells #[.bool di.f0, .slice (some ak) di.f1.length cr] 25 (0, 0)) := by
                have := heap_alloc_new (w7.alloc (.cells #[.bool nv.f0, .slice Av nv.f1.length cv] 25)) (.cells #[.bool di.f0, .slice (some ak) di.f1.length cr] 25)
                rwa [show (w7.alloc (.cells #[.bool nv.f0, .slice Av nv.f1.length cv] 25)).heap.size = w7.heap.size + 1 by simp] at this
              have HB8 := Aside0.mk b8
              have HK11 := Aside0.mk k11
              have HK13 := Aside0.mk k13
              clear b8 k11 k13 x0 x1
              generalize ((w7.alloc (.cells #[.bool nv.f0, .slice Av nv.f1.length cv] 25)).alloc (.cells #[.bool di.f0, .slice (some ak) di.f1.length cr] 25)) = w8 at *
              obtain ⟨wo, rfl⟩ : ∃ wo, wo = wr := ⟨_, rfl⟩
              go_loopg [14] ps.length (fun kx a U => ∃ (j : Nat) (Aj : Option Addr) (cj : Nat), a = .int .i64 j ∧ j ≤ ps.length ∧ ps.length - j ≤ kx ∧ Aside0 (i2 ≤ j) ∧ Aside0 (Below w7.heap.size w7 U) ∧ Aside0 (U.heap[w7.heap.size]? = some (.cells #[.bool nv.f0, .slice Av nv.f1.length cv] 25 (0, 0))) ∧ Aside0 (U.heap[w7.heap.size + 1]? = some (.cells #[.bool (newestV ps i2 j).f0, .slice Aj (newestV ps i2 j).f1.length cj] 25 (0, 0))) ∧ Aside0 ((newestV ps i2 j).f1.length ≤ cj) ∧ Aside0 (Kd.C k27 w7 Aj (newestV ps i2 j).f1.length (newestV ps i2 j).f1))
              case atStart => exact ⟨i2, some ak, cr, rfl, hi2, by omega, ⟨Nat.le_refl _⟩, HB8, HK11, by rw [HST.out]; exact HK13, by rw [HST.out]; exact HCI, by rw [HST.out]; exact HCC7⟩
              case round =>
                clear HB8 HK11 HK13 HCC7
                obtain ⟨j, Aj, cj, rfl, hjl, hkj, HIJ, HBI, H11, H13, HJC, HJK⟩ := hrel
                by_cases hltj : j < ps.length
                · have hjz : (j : Int) < (ps.length : Int) := by omega
                  have hjn : (0 : Int) ≤ (j : Int) := by omega
                  have HBW := Aside0.mk (below_then H5.out H5.out.size HB7.out)
                  obtain ⟨adj, Arj, crj, eAj, xj0, xj1, hcrj, hCrj⟩ := at_T25 (Kd.C_below HCe.out HBW.out) (j : Int) hjn hjz
                  cases eAj
                  obtain ⟨adi, Ari, cri, eAi, xi0, xi1, hcri, hCri⟩ := at_T25 (Kd.C_below HCe.out HBW.out) (i2 : Int) hiz2 hltz2
                  cases eAi
                  rw [HDI.out] at xi0 xi1 hcri hCri
                  rw [rdD_at ps j hltj] at xj0 xj1 hcrj hCrj
                  simp only [Int.toNat_natCast] at xi0 xi1 xj0 xj1
                  have xi1 := (Below.cell HBI.out (World.block_lt_of_cell? _ _ xi1)).trans xi1
                  have xj0 := (Below.cell HBI.out (World.block_lt_of_cell? _ _ xj0)).trans xj0
                  have xj1 := (Below.cell HBI.out (World.block_lt_of_cell? _ _ xj1)).trans xj1
                  have HSJ := Aside0.mk (HSTEP.out j hltj HIJ.out)
                  have HKJ : Aside0 (0 < ps[j].f1.length → (keyT ps[j]).f2.size ≤ 1048576) := ⟨fun h => HSTRS.out _ (List.getElem_mem hltj) _ (keyT_mem h)⟩
                  generalize ps[j] = dj at *
                  have HCJ := Aside0.mk hCrj
                  have HLJ := Aside0.mk hcrj
                  have XJ1 : ∀ s : SomeW wr, s.W.cell? ⟨(ad.add (j * 2)).block, (ad.add (j * 2)).off + 1, none⟩ = some (.slice Arj dj.f1.length crj) := fun s => cell_some xj1 s
                  have XI1 : ∀ s : SomeW wr, s.W.cell? ⟨(ad.add (i2 * 2)).block, (ad.add (i2 * 2)).off + 1, none⟩ = some (.slice Ari di.f1.length cri) := fun s => cell_some xi1 s
                  clear hcrj hcri xi0 xi1
                  by_cases hemj : dj.f1.length = 0
                  · have hp1 : ¬ (dj.f1.length : Int) > 0 := by omega
                    have hp2 : decide ((dj.f1.length : Int) > 0) = false := decide_eq_false hp1
                    have hp4 : ¬ 0 < dj.f1.length := by omega
                    rw [if_pos hemj] at HSJ
                    clear hCri hCrj xj0 xj1
                    go_wp2
                    refine wp_region_quiet_some mixed_T (by kernel_rfl) ?_
                    repeat (go_big_quiet_step (fail))
                    refine wpQuiet_nil ?_
                    intro U3 hw'
                    obtain ⟨p_, hp_⟩ := hw'
                    have hbU : Below wr.heap.size wr U3 := by rw [hp_]; exact p_.h
                    clear hp_ p_ XJ1 XI1 hp1 hp2 hp4 hemj
                    have HBU := Aside0.mk hbU
                    clear hbU
                    go_wp2
                    go_roundg (ps.length - (j + 1))
                    case measure => omega
                    case rel => exact ⟨j + 1, Aj, cj, by go_num, by omega, by omega, ⟨Nat.le_succ_of_le HIJ.out⟩, ⟨below_then HBI.out HBI.out.size HBU.out⟩, ⟨blk_below H11.out HBU.out⟩, by rw [HSJ.out]; exact ⟨blk_below H13.out HBU.out⟩, by rw [HSJ.out]; exact HJC, by rw [HSJ.out]; exact HJK⟩
                  · have hp1 : (dj.f1.length : Int) > 0 := by omega
                    have hp2 : decide ((dj.f1.length : Int) > 0) = true := decide_eq_true hp1
                    have hp4 : 0 < dj.f1.length := by omega
                    rw [if_neg hemj] at HSJ
                    obtain ⟨akj, eK, yj0, yj1, yj2⟩ := at_T27 (show Kd.C k27 wr Arj dj.f1.length dj.f1 from Kd.C_below hCrj HBI.out) (0 : Int) (by omega) hp1
                    cases eK
                    obtain ⟨aki, eK, yi0, yi1, yi2⟩ := at_T27 (show Kd.C k27 wr Ari di.f1.length di.f1 from Kd.C_below hCri HBI.out) (0 : Int) (by omega) hzp
                    cases eK
                    have YJ0 : ∀ s : SomeW wr, s.W.cell? akj = some (.bool (keyT dj).f0) := fun s => cell_some yj0 s
                    have YJ1 : ∀ s : SomeW wr, s.W.cell? ⟨akj.block, akj.off + 1, none⟩ = some (.int .i64 (keyT dj).f1) := fun s => cell_some yj1 s
                    have YJ2 : ∀ s : SomeW wr, s.W.cell? ⟨akj.block, akj.off + 2, none⟩ = some (.string (keyT dj).f2) := fun s => cell_some yj2 s
                    have YI0 : ∀ s : SomeW wr, s.W.cell? aki = some (.bool (keyT di).f0) := fun s => cell_some yi0 s
                    have YI1 : ∀ s : SomeW wr, s.W.cell? ⟨aki.block, aki.off + 1, none⟩ = some (.int .i64 (keyT di).f1) := fun s => cell_some yi1 s
                    have YI2 : ∀ s : SomeW wr, s.W.cell? ⟨aki.block, aki.off + 2, none⟩ = some (.string (keyT di).f2) := fun s => cell_some yi2 s
                    have hcmp := fun V1 => compare_T (keyT dj) (keyT di) V1 (by have := HKJ.out hp4; omega) (by have := HKM.out; omega)
                    have HXJ0 := Aside0.mk xj0
                    have HXJ1 := Aside0.mk xj1
                    have heq := cmp_eqK (keyT dj) (keyT di)
                    clear hCri hCrj xj0 xj1 yj0 yj1 yj2 yi0 yi1 yi2
                    have hzi : ((0 : Int) < (di.f1.length : Int)) := hzp
                    by_cases hq : eqK (keyT dj) (keyT di) = true
                    · have hc0 := heq.2 hq
                      have hc1 : (Thy.cmpV (keyT dj).f0 (keyT dj).f1 (keyT dj).f2 (keyT di).f0 (keyT di).f1 (keyT di).f2 == 0) = true := beq_iff_eq.2 hc0
                      rw [if_pos hq] at HSJ
                      clear heq hq
                      generalize hcv : Thy.cmpV (keyT dj).f0 (keyT dj).f1 (keyT dj).f2 (keyT di).f0 (keyT di).f1 (keyT di).f2 = cmv at *
                      clear hcv
                      go_wp2
                      refine wp_region_quiet_some mixed_T (by kernel_rfl) ?_
                      repeat (go_big_quiet_step (first | (go_at_call 37; refine Calls.below_some (hcmp _))))
                      refine wpQuiet_nil ?_
                      intro U3 hw'
                      obtain ⟨p_, hp_⟩ := hw'
                      have hbU : Below wr.heap.size wr U3 := by rw [hp_]; exact p_.h
                      clear hp_ p_ XJ1 XI1 hp1 hp2 hp4 hemj hcmp YJ0 YJ1 YJ2 YI0 YI1 YI2
                      have HBU := Aside0.mk hbU
                      have xj0 := (Below.cell hbU (World.block_lt_of_cell? _ _ HXJ0.out)).trans HXJ0.out
                      have xj1 := (Below.cell hbU (World.block_lt_of_cell? _ _ HXJ1.out)).trans HXJ1.out
                      have d0 := (blk_cell (blk_below H13.out hbU) 0).trans rfl
                      have d1 := (blk_cell (blk_below H13.out hbU) 1).trans rfl
                      have df0 := blk_frozen (blk_below H13.out hbU) 0
                      have df1 := blk_frozen (blk_below H13.out hbU) 1
                      clear hbU
                      go_wp2
                      go_roundg (ps.length - (j + 1))
                      case measure => omega
                      case rel =>
                        refine ⟨j + 1, some akj, crj, by go_num, by omega, by omega, ⟨Nat.le_succ_of_le HIJ.out⟩, ⟨below_set (below_set (below_then HBI.out HBI.out.size HBU.out) (Nat.le_succ _)) (Nat.le_succ _)⟩, ⟨?_⟩, ?_, ?_, ?_⟩
                        · exact (Sk.heap_set_ne _ _ _ _ _ (by omega)).trans ((Sk.heap_set_ne _ _ _ _ _ (by omega)).trans (blk_below H11.out HBU.out))
                        · rw [HSJ.out]; exact ⟨blk_set (blk_set (blk_below H13.out HBU.out) 0 _) 1 _⟩
                        · rw [HSJ.out]; exact HLJ
                        · rw [HSJ.out]; exact HCJ
                    · have hc0 : ¬ Thy.cmpV (keyT dj).f0 (keyT dj).f1 (keyT dj).f2 (keyT di).f0 (keyT di).f1 (keyT di).f2 = 0 := fun h => hq (heq.1 h)
                      have hc1 : (Thy.cmpV (keyT dj).f0 (keyT dj).f1 (keyT dj).f2 (keyT di).f0 (keyT di).f1 (keyT di).f2 == 0) = false := beq_eq_false_iff_ne.2 hc0
                      rw [if_neg hq] at HSJ
                      clear heq hq
                      generalize hcv : Thy.cmpV (keyT dj).f0 (keyT dj).f1 (keyT dj).f2 (keyT di).f0 (keyT di).f1 (keyT di).f2 = cmv at *
                      clear hcv
                      go_wp2
                      refine wp_region_quiet_some mixed_T (by kernel_rfl) ?_
                      repeat (go_big_quiet_step (first | (go_at_call 37; refine Calls.below_some (hcmp _))))
                      refine wpQuiet_nil ?_
                      intro U3 hw'
                      obtain ⟨p_, hp_⟩ := hw'
                      have hbU : Below wr.heap.size wr U3 := by rw [hp_]; exact p_.h
                      clear hp_ p_ XJ1 XI1 hp1 hp2 hp4 hemj hcmp YJ0 YJ1 YJ2 YI0 YI1 YI2
                      have HBU := Aside0.mk hbU
                      clear hbU
                      go_wp2
                      go_roundg (ps.length - (j + 1))
                      case measure => omega
                      case rel => exact ⟨j + 1, Aj, cj, by go_num, by omega, by omega, ⟨Nat.le_succ_of_le HIJ.out⟩, ⟨below_then HBI.out HBI.out.size HBU.out⟩, ⟨blk_below H11.out HBU.out⟩, by rw [HSJ.out]; exact ⟨blk_below H13.out HBU.out⟩, by rw [HSJ.out]; exact HJC, by rw [HSJ.out]; exact HJK⟩
                · have hej : j = ps.length := by omega
                  have hjz : ¬ (j : Int) < (ps.length : Int) := by omega
                  rw [hej, HNV.out] at H13 HJC HJK
                  have hRU := Kd.R_reads' (Kd.R_below HRV.out HBI.out)
                  have hsame := fun (U1 : World) (hU : Below wr.heap.size wr U1) => same_T nv.f0 Av cv nv.f1 nv.f0 Aj cj nv.f1 U1 (Kd.C_below hRU.2.2 hU) hRU.2.1 (Kd.C_below (Kd.C_below HJK.out HBI.out) hU) HJC.out
                  rw [sameV_self, beq_self_eq_true, Bool.and_self] at hsame
                  have hs0 := hsame wr (Below.refl _ _)
                  have c0 := (blk_cell H11.out 0).trans rfl
                  have c1_ := (blk_cell H11.out 1).trans rfl
                  have d0 := (blk_cell H13.out 0).trans rfl
                  have d1 := (blk_cell H13.out 1).trans rfl
                  clear hRU hsame hlt hej hltj
                  go_wp2_with fail
                  refine hs0.mono ?_
                  rintro e w9 ⟨rfl, hb9⟩
                  have HB9 := Aside0.mk (below_then HB7.out HB7.out.size (below_then HBI.out HBI.out.size hb9))
                  clear hs0 c0 c1_ d0 d1 hb9
                  go_wp2
                  go_roundg (ps.length - (i2 + 1))
                  case measure => omega
                  case rel => exact ⟨i2 + 1, by go_num, by omega, by omega, HB9⟩
          · have hie2 : i2 = ps.length := by omega
            have hltz2 : ¬ (i2 : Int) < (ps.length : Int) := by omega
            have hn0 := (blk_cell (blk_below H1.out B2.out) 0).trans rfl
            have hlen := fun (U : World) (hU : Below wr.heap.size wr U) => (Len_T we.heap.size ns _ U ((H4.out.below B2.out).below hU)).mono (R' := fun e w' => e = .returned (.int .i64 ns.length) ∧ Below U.heap.size U w') (fun e w' h => ⟨h.1, by rw [h.2]; exact Below.refl _ _⟩)
            have hxl : xs.length = ns.length := by have h1 := congrArg List.length HXS.out; have h2 := congrArg List.length HD'.out; rw [List.length_map] at h1 h2; omega
            rw [hxl] at hn0
            have hk4 := blk_below HKe.out (below_then H5.out H5.out.size B2.out)
            have r0 := (blk_cell hk4 0).trans rfl
            have rf := blk_frozen hk4 0
            have HK4 := Aside0.mk hk4
            have HBWE := Aside0.mk (below_then HBe.out HBe.out.size (below_then H5.out H5.out.size B2.out))
            have HDD := Aside0.mk ((B2.out.block _ (Array.getElem?_eq_some_iff.1 HD0.out).1).trans HD0.out)
            have hl1 := fun U hU => hlen U hU
            have hn1 := fun (U : World) (hU : Below wr.heap.size wr U) => (Below.cell hU (World.block_lt_of_cell? _ _ hn0)).trans hn0
            have hr1 := fun (U : World) (hU : Below wr.heap.size wr U) => (Below.cell hU (World.block_lt_of_cell? _ _ r0)).trans r0
            have hf1 : ∀ U : World, Below wr.heap.size wr U → U.frozen? ⟨W.heap.size, 0, none⟩ = false := fun U hU => blk_frozen (blk_below HK4.out hU) 0
            clear hk4 hxl hlen
            go_wp2_with fail
            refine wp_cut_T (fun w' => ∃ w4, Below wr.heap.size wr w4 ∧ w' = w4.setCell ⟨W.heap.size, 0, none⟩ (.bool true)) ?_
            apply Exists.intro
            refine And.intro ?_ ?_
            · go_region_with (go_at_call 29; refine (hl1 _ ?_).mono ?_; (first | exact Below.refl _ _ | exact below_drew1 (Below.refl _ _)); rintro e w4 ⟨rfl, hb4⟩; have hb4 := (below_then (below_drew1 (Below.refl wr.heap.size wr)) (Nat.le_refl _) hb4); have qa := hn1 w4 hb4; have qb := hr1 w4 hb4; have qc := hf1 w4 hb4)
              all_goals exact ⟨rfl, w4, hb4, rfl⟩
            · rintro w5_ ⟨w4, hb4, hw5⟩
              have HKF : Aside0 (w5_.heap[W.heap.size]? = some (.cells #[.bool true] 4 (0, 0))) := ⟨by rw [hw5]; exact blk_set (blk_below HK4.out hb4) 0 _⟩
              have HBF : Aside0 (Below W.heap.size W w5_) := ⟨by rw [hw5]; exact below_set (below_then HBWE.out HBWE.out.size hb4) (Nat.le_refl _)⟩
              have HDF : Aside0 (w5_.heap[w6.heap.size]? = some (.deferred (some []))) := ⟨by
                rw [hw5]
                exact (Sk.heap_set_ne _ _ _ _ _ (by have h1 := HB6.out.size; have h2 := HBe.out.size; have h3 := (Array.getElem?_eq_some_iff.1 HKe.out).1; omega)).trans ((hb4.block _ (Array.getElem?_eq_some_iff.1 HDD.out).1).trans HDD.out)⟩
              clear hw5 hb4 hl1 hn1 hr1 hf1 hn0 r0 rf HK4 HDD
              go_wp2
              refine ⟨by simp, .inl ⟨_, _, rfl, run_takeDeferred HDF.out, ?_⟩⟩
              have hcf := (World.putObj_heap_other (o := .deferred none) (w := w5_) (r := w6.heap.size) (show W.heap.size ≠ w6.heap.size by have h1 := HB6.out.size; have h2 := HBe.out.size; have h3 := (Array.getElem?_eq_some_iff.1 HKe.out).1; omega)).trans HKF.out
              refine ⟨.bool true, ?_, rfl, below_put HBF.out (by have h1 := HB6.out.size; have h2 := HBe.out.size; omega) _⟩
              simp [results, Try.f11, go_sem, (blk_cell hcf 0).trans rfl]
end Go.Proofs.Ytnfliommpdjlkaa.Pr
