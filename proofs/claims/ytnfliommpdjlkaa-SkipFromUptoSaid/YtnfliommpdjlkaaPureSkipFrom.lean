/- The law SkipFrom: its walk. -/
import Derived.Test.YtnfliommpdjlkaaRfB
import Derived.Deep.RegionWith
import Derived.RangeFuncNested
import Derived.Sort.LoopGhostIn
import Derived.Stop.RegionWithIn
import Derived.RegionIn
import Derived.RangeFuncBound
import Derived.RangeFuncCalls
import Derived.RangeFuncLeaves
import Derived.OwnWalkIn
import Derived.TacticsInMore
import Derived.LoopNIn
import Derived.LoopIn
import Derived.Shelf.AbstractIn
namespace Go.Proofs.Ytnfliommpdjlkaa.Pr
open Go.RowKit Go.Proofs.Ytnfliommpdjlkaa.Brid Go.Proofs.YtnfliommpdjlkaaW.PrintWords Go.Proofs.YtnfliommpdjlkaaW.PrintLast Go.Proofs.YtnfliommpdjlkaaW.PrintMore
set_option linter.unusedVariables false
set_option linter.unusedSimpArgs false
set_option maxHeartbeats 4000000
set_option maxRecDepth 100000
attribute [local go_sem] Oper.semAt_some
theorem ownFrom_RK {β α : Type} {d : Kd α} {e B n0 : Nat} {ok : Nat → Prop} {v : Value} {l : List α} : OwnFrom B (fun (_ : β) V => Kd.R d e V n0 ok v l) := by
  intro s A A' row h hg hr
  refine Kd.R_mono (Kd.R_move (Kd.R_bound h) (fun k hk => hg.block k hk.2.2.1 (fun e => ?_))) (fun _ hk => hk.1)
  obtain ⟨_, o, ho, hc⟩ := hr k e.symm
  obtain ⟨_, _, _, q, _, cells, hcell⟩ := hk
  rw [hcell] at ho
  cases ho
  cases hc
theorem post_len (k : S27) (ds : List S25) : (postOf keyT k ds).length ≤ ds.length := by
  have h := congrArg List.length (pre_post keyT k ds); rw [List.length_append] at h; omega
theorem SkipFrom_walk (W : World) (A0 : Option Addr) (c0 : Nat) (l0 : List (S25)) (hc0 : l0.length ≤ c0) (hr0 : Kd.C k25 W A0 l0.length l0) (b0 : BL B25 l0 1048576) (x1 : S27) (b1 : B27 x1 1048576) (a2 : Int) (b2 : (Lit.int .i64 a2).wf = true) :
    Calls Try.prog 10 #[.slice A0 l0.length c0, .agg #[.bool x1.f0, .int .i64 x1.f1, .string x1.f2], .int .i64 a2] W fun e W' => e = .returned (.bool true) ∧ Below W.heap.size W W' := by
  have hlens : ∀ d ∈ l0.take 400, d.f1.length ≤ 4398046511103 := fun d hd => by
    have : d.f1.length ≤ 1048576 := (b0.2 d (List.mem_of_mem_take hd)).2.1
    omega
  have hstrs : ∀ d ∈ l0.take 400, 0 < d.f1.length → (keyT d).f2.size ≤ 9223372036854775807 := fun d hd h => by
    have : (keyT d).f2.size ≤ 1048576 := ((b0.2 d (List.mem_of_mem_take hd)).2.2 _ (keyT_mem h)).2.2
    omega
  have hkey : x1.f2.size ≤ 9223372036854775807 := by have : x1.f2.size ≤ 1048576 := b1.2.2; omega
  have hl400 : (l0.take 400).length ≤ 400 := by rw [List.length_take]; omega
  generalize hps : l0.take 400 = ps at *
  have B1 := below_alloc (below_alloc (below_alloc (Below.refl W.heap.size W) (.cells (cellsT x1) 27)) (.cells #[.int .i64 a2] 3)) (.cells #[.bool false] 4)
  have z1 : (W.alloc (.cells (cellsT x1) 27)).heap.size = W.heap.size + 1 := by simp
  have z2 : ((W.alloc (.cells (cellsT x1) 27)).alloc (.cells #[.int .i64 a2] 3)).heap.size = W.heap.size + 2 := by simp
  have K0 := blk_alloc (blk_alloc (heap_alloc_new W (.cells (cellsT x1) 27)) (.cells #[.int .i64 a2] 3)) (.cells #[.bool false] 4)
  have K1 := blk_alloc (heap_alloc_new (W.alloc (.cells (cellsT x1) 27)) (.cells #[.int .i64 a2] 3)) (.cells #[.bool false] 4)
  have K2 := heap_alloc_new ((W.alloc (.cells (cellsT x1) 27)).alloc (.cells #[.int .i64 a2] 3)) (.cells #[.bool false] 4)
  rw [z1] at K1
  rw [z2] at K2
  have HC0 := Aside0.mk hr0
  have HB1 := Aside0.mk B1
  have HK0 := Aside0.mk K0
  have HK1 := Aside0.mk K1
  have HK2 := Aside0.mk K2
  have HLENS := Aside0.mk hlens
  have HPS := Aside0.mk hps
  have HSTRS := Aside0.mk hstrs
  have HKEY := Aside0.mk hkey
  clear B1 K0 K1 K2 z1 z2 hr0 b0 b1 b2 hlens hps hstrs hkey
  refine (callsIn_wide (n := 1)).1 (callsIn_of_wp_marks Try.func10 rfl trivial ?_ rfl)
  simp only [Try.ntmps10, List.size_toArray, List.length_cons, List.length_nil, Nat.reduceAdd, Nat.reduceSub, Array.replicate_succ, Array.replicate_zero, List.push_toArray, List.append_toArray, List.nil_append, List.cons_append]
  refine wpIn_wide.2 ?_
  go_wp2_with fail
  refine (lives_T _).mono ?_
  rintro e w1 ⟨rfl, hb1⟩
  have HB2 := Aside0.mk (below_then HB1.out HB1.out.size hb1)
  have HK0b := Aside0.mk (blk_below HK0.out hb1)
  have HK1b := Aside0.mk (blk_below HK1.out hb1)
  have HK2b := Aside0.mk (blk_below HK2.out hb1)
  clear hb1 HB1 HK0 HK1 HK2
  go_wp2_with fail
  refine (early_T A0 c0 l0 w1 (Kd.C_below HC0.out HB2.out) hc0).mono ?_
  rintro e we ⟨A, c, rfl, hce, hCe, hbe⟩
  rw [HPS.out] at hce hCe ⊢
  have HBe := Aside0.mk (below_then HB2.out HB2.out.size hbe)
  have HK0e := Aside0.mk (blk_below HK0b.out hbe)
  have HK1e := Aside0.mk (blk_below HK1b.out hbe)
  have HK2e := Aside0.mk (blk_below HK2b.out hbe)
  have HCe := Aside0.mk hCe
  clear hbe hCe HB2 HK0b HK1b HK2b HC0
  go_wp2_with fail
  refine (New_T 7 we).mono ?_
  rintro e w2 ⟨rfl, hb2, H2⟩
  have b3 := below_alloc (Below.refl w2.heap.size w2) (.cells #[.slice none 0 0] 54)
  have kq := heap_alloc_new w2 (.cells #[.slice none 0 0] 54)
  have z3 : (w2.alloc (.cells #[.slice none 0 0] 54)).heap.size = w2.heap.size + 1 := by simp
  have HW2 := Aside0.mk hb2.size
  have HL3 : Aside0 (SkL (w2.alloc (.cells #[.slice none 0 0] 54)) (fun k => we.heap.size ≤ k ∧ k < w2.heap.size) we.heap.size []) := ⟨H2.bound.below b3⟩
  have HQ3 : Aside0 (RefL (w2.alloc (.cells #[.slice none 0 0] 54)) we we.heap.size w2.heap.size (fun k => we.heap.size ≤ k ∧ k < w2.heap.size) []) := ⟨_, kq, Kd.R_nil _ _ _ _ _, fun h => by omega⟩
  have HB3 := Aside0.mk (below_then hb2 hb2.size b3)
  have HZ3 := Aside0.mk z3
  clear b3 kq hb2 H2 z3
  go_wp2
  generalize w2.alloc (.cells #[.slice none 0 0] 54) = w3 at *
  go_loopg [9] ps.length (fun kx a wr => ∃ (i : Nat) (OA : Nat → Prop) (na : List (Sk.Nd S25)), a = .int .i64 i ∧ i ≤ ps.length ∧ ps.length - i ≤ kx ∧ Aside0 (SkL wr OA we.heap.size na) ∧ Aside0 (na.map (·.d) = putsV (ps.take i)) ∧ Aside0 (∀ k, OA k → we.heap.size ≤ k ∧ k < wr.heap.size) ∧ Aside0 (RefL wr we we.heap.size w2.heap.size OA (putsV (ps.take i))) ∧ Aside0 (Below we.heap.size we wr))
  case atStart => exact ⟨0, _, [], rfl, Nat.zero_le _, by omega, HL3, ⟨rfl⟩, ⟨fun k hk => ⟨hk.1, by have := HZ3.out; omega⟩⟩, HQ3, HB3⟩
  case round =>
    obtain ⟨i, OA, na, rfl, hi, hkx, HA, HDA, HOA, HQ, HBW⟩ := hrel
    by_cases hlt : i < ps.length
    · have hltz : (i : Int) < (ps.length : Int) := by omega
      have hiz : (0 : Int) ≤ (i : Int) := by omega
      obtain ⟨ad, Ar, cr, eA, x0, x1, hcr, hCr⟩ := at_T25 HCe.out (i : Int) hiz hltz
      subst eA
      rw [rdD_at ps i hlt] at x0 x1 hcr hCr
      simp only [Int.toNat_natCast] at x0 x1
      have hnl : na.length ≤ 400 := by
        have h1 := congrArg List.length HDA.out
        have h2 := putsV_len (ps.take i)
        rw [List.length_map] at h1
        rw [List.length_take] at h2
        omega
      have HE : Aside0 (ps.take (i + 1) = ps.take i ++ [ps[i]]) := ⟨List.take_succ_eq_append_getElem hlt⟩
      have hdl := HLENS.out _ (List.getElem_mem hlt)
      have HDS := Aside0.mk (HSTRS.out _ (List.getElem_mem hlt))
      generalize ps[i] = d at *
      have hput := PutAny_T we.heap.size d Ar cr na (ps.take i) _ wr HA.out (Kd.C_below hCr HBW.out) hcr hdl (by omega) HDA.out
      have HCR := Aside0.mk (And.intro hcr hCr)
      have HX0 := Aside0.mk x0
      have HX1 := Aside0.mk x1
      have x0 := (Below.cell HBW.out (World.block_lt_of_cell? _ _ HX0.out)).trans HX0.out
      have x1 := (Below.cell HBW.out (World.block_lt_of_cell? _ _ HX1.out)).trans HX1.out
      clear hcr hCr hnl hdl
      go_wp2_with fail
      refine hput.mono ?_
      rintro e w7 ⟨rfl, hF, ns', H', hd'⟩
      rw [← HE.out] at hd'
      have HA7 := Aside0.mk H'.bound
      have HDA7 := Aside0.mk hd'
      have HOA7 : Aside0 (∀ k, ((OA k ∨ wr.heap.size ≤ k) ∧ k < w7.heap.size) → we.heap.size ≤ k ∧ k < w7.heap.size) := ⟨fun k hk => ⟨hk.1.elim (fun h => (HOA.out k h).1) (fun h => Nat.le_trans HBW.out.size h), hk.2⟩⟩
      have HQ7 := Aside0.mk (HQ.out.put_a hF)
      have HBW7 := Aside0.mk (below_fr HBW.out hF (fun k hk => (HOA.out k hk).1))
      clear hput hF H' hd' HA HDA HOA HQ HBW x0 x1
      have x0 := (Below.cell HBW7.out (World.block_lt_of_cell? _ _ HX0.out)).trans HX0.out
      have x1 := (Below.cell HBW7.out (World.block_lt_of_cell? _ _ HX1.out)).trans HX1.out
      have hput := PutRef_T d Ar cr (ps.take i) w2.heap.size we.heap.size _ we w7 HQ7.out (fun k hk => hk.2) HBW7.out.size HBW7.out HCR.out.2 HCR.out.1 (by rw [List.length_take]; omega) (fun e he => HSTRS.out e (List.mem_of_mem_take he)) HDS.out
      go_wp2_with fail
      refine hput.mono ?_
      rintro e w8 ⟨rfl, hF, hQ8⟩
      rw [← HE.out] at hQ8
      have HQ8 := Aside0.mk hQ8
      obtain ⟨_, _, _, hnq⟩ := HQ7.out
      have HA8 := Aside0.mk (HA7.out.keep (w1 := w8) (fun k hk hlt => hF.block k hlt (fun e => by subst e; exact hnq hk)))
      have HOA8 : Aside0 (∀ k, ((OA k ∨ wr.heap.size ≤ k) ∧ k < w7.heap.size) → we.heap.size ≤ k ∧ k < w8.heap.size) := ⟨fun k hk => ⟨(HOA7.out k hk).1, Nat.lt_of_lt_of_le hk.2 hF.size⟩⟩
      have HBW8 := Aside0.mk (below_fr HBW7.out hF (fun k hk => by have := HW2.out; omega))
      clear hput hF hQ8 hnq x0 x1 HA7 HOA7 HQ7 HBW7
      go_wp2
      go_roundg (ps.length - (i + 1))
      case measure => omega
      case rel => exact ⟨i + 1, _, _, by go_num, by omega, by omega, HA8, HDA7, HOA8, HQ8, HBW8⟩
    · obtain rfl : ps.length = i := by omega
      have hltz : ¬ (ps.length : Int) < (ps.length : Int) := by omega
      have HDP : Aside0 (na.map (·.d) = putsV ps) := ⟨by rw [HDA.out, List.take_length]⟩
      have hQP := HQ.out
      rw [List.take_length] at hQP
      have HQP := Aside0.mk hQP
      clear HDA HQ hQP
      obtain ⟨Aq, cq, hqc, hcq, hCq, hRq⟩ := HQP.out.reads
      have hCk := oldK_C hCq HBW.out
      have hne : ∀ e ∈ putsV ps, e.f1.length ≠ 0 := fun e he => (putsV_mem he).2
      have hsz : ∀ e ∈ putsV ps, (keyT e).f2.size ≤ 9223372036854775807 := fun e he => HSTRS.out e (putsV_mem he).1 (Nat.pos_of_ne_zero (putsV_mem he).2)
      have hfr := From_R w2.heap.size x1 (putsV ps) Aq cq wr hqc hCk hcq (Nat.le_trans (putsV_len ps) (by omega)) hne hsz HKEY.out
      have hkb := blk_below HK0e.out HBW.out
      have k0 := (blk_cell hkb 0).trans rfl
      have k1 := (blk_cell hkb 1).trans rfl
      have k2 := (blk_cell hkb 2).trans rfl
      have HQC := Aside0.mk hqc
      have HCQ := Aside0.mk hcq
      have HRQ := Aside0.mk hRq
      clear hqc hcq hCq hRq hCk hne hsz hkb HQP
      go_wp2_with fail
      refine hfr.mono ?_
      rintro e w4 ⟨hb4, rfl⟩
      have hpl := post_len x1 (putsV ps)
      generalize hpp : postOf keyT x1 (putsV ps) = want at *
      have HPP := Aside0.mk hpp
      have hfc := fun (U : World) (h : Kd.C k25 U Aq (putsV ps).length (putsV ps)) => from_C (k := x1) h HCQ.out
      rw [hpp] at hfc
      generalize (if cq = (preOf keyT x1 (putsV ps)).length then Aq else Aq.map (·.add ((preOf keyT x1 (putsV ps)).length * 2))) = Aw at *
      generalize cq - (preOf keyT x1 (putsV ps)).length = cw at *
      have HFC := Aside0.mk hfc
      have HA4 := Aside0.mk (HA.out.below hb4)
      have HR4 := Aside0.mk (Kd.R_below HRQ.out hb4)
      have HB4 := Aside0.mk (below_then HBW.out HBW.out.size hb4)
      have HS4 := Aside0.mk hb4.size
      have HWR := Aside0.mk HBW.out.size
      clear hfr hb4 hpp hfc k0 k1 k2 HRQ HA HBW
      have hkb := blk_alloc (blk_alloc (blk_below HK0e.out HB4.out) (.cells #[.slice Aw want.length cw] 50)) (.cells #[.int .i64 0] 3)
      have k0 := (blk_cell hkb 0).trans rfl
      have k1 := (blk_cell hkb 1).trans rfl
      have k2 := (blk_cell hkb 2).trans rfl
      clear hkb
      go_wp2_with fail
      clear k0 k1 k2
      have b5 := below_alloc (below_alloc (Below.refl w4.heap.size w4) (.cells #[.slice Aw want.length cw] 50)) (.cells #[.int .i64 0] 3)
      have z5 : ((w4.alloc (.cells #[.slice Aw want.length cw] 50)).alloc (.cells #[.int .i64 0] 3)).heap.size = w4.heap.size + 2 := by simp
      have kw := blk_alloc (heap_alloc_new w4 (.cells #[.slice Aw want.length cw] 50)) (.cells #[.int .i64 0] 3)
      have kn := heap_alloc_new (w4.alloc (.cells #[.slice Aw want.length cw] 50)) (.cells #[.int .i64 0] 3)
      rw [show (w4.alloc (.cells #[.slice Aw want.length cw] 50)).heap.size = w4.heap.size + 1 by simp] at kn
      have HA5 := Aside0.mk (HA4.out.below b5)
      have HR5 := Aside0.mk (Kd.R_below HR4.out b5)
      have HB5 := Aside0.mk (below_then HB4.out HB4.out.size b5)
      have HKW := Aside0.mk kw
      have HKN := Aside0.mk kn
      have HZ5 := Aside0.mk z5
      clear b5 z5 kw kn HA4 HR4 HB4
      generalize ((w4.alloc (.cells #[.slice Aw want.length cw] 50)).alloc (.cells #[.int .i64 0] 3)) = w5 at *
      have hs5 := List.pairwise_map.1 HA5.out.sorted
      have e5 := pre_post (fun n : Sk.Nd S25 => keyT n.d) x1 na
      have hpm := postOf_map x1 na
      rw [HDP.out, HPP.out] at hpm
      have hfrm := From_T we.heap.size x1 (preOf (fun n : Sk.Nd S25 => keyT n.d) x1 na) (postOf (fun n : Sk.Nd S25 => keyT n.d) x1 na) w5 (by rw [e5]; exact HA5.out.m.chain) (by rw [e5]; exact HA5.out.m.rowsOk) (preOf_less (fun n : Sk.Nd S25 => keyT n.d) x1 na) (postOf_not (fun n : Sk.Nd S25 => keyT n.d) x1 na hs5)
      have HE5 := Aside0.mk e5
      have HPM := Aside0.mk hpm
      clear hs5 e5 hpm
      generalize preOf (fun n : Sk.Nd S25 => keyT n.d) x1 na = nu at *
      generalize postOf (fun n : Sk.Nd S25 => keyT n.d) x1 na = nv at *
      refine hfrm.mono ?_
      rintro e w6 ⟨gb, rfl, b6, hgb, kg⟩
      have HA6 := Aside0.mk (HA5.out.below b6)
      have HR6 := Aside0.mk (Kd.R_below HR5.out b6)
      have HB6 := Aside0.mk (below_then HB5.out HB5.out.size b6)
      have HKW6 := Aside0.mk (blk_below HKW.out b6)
      have HKN6 := Aside0.mk (blk_below HKN.out b6)
      have HS6 := Aside0.mk b6.size
      have HKG := Aside0.mk kg
      have hlenOf : ∀ n ∈ na, n.d.f1.length ≤ 4398046511103 := fun n hn => by
        have : n.d ∈ na.map (·.d) := List.mem_map_of_mem hn
        rw [HDP.out] at this
        exact HLENS.out _ (putsV_mem this).1
      have hgiv := given_G we.heap.size gb nu nv OA (fun k => k = w4.heap.size + 1 ∨ k = w6.heap.size ∨ k = w6.heap.size + 1) _ _ w6 (by rw [HE5.out]; exact HA6.out.m) (by rw [HE5.out]; exact HA6.out.pos) (by rw [HE5.out]; exact hlenOf) HKG.out
        (fun h => by have := (Array.getElem?_eq_some_iff.1 HKG.out).1; have := HZ5.out; omega)
        (fun k hk => by have := (HOA.out k hk).2; have := HZ5.out; have := HS6.out; have := HS4.out; omega) (fun k hk => by have := HZ5.out; have := HS6.out; omega)
      rw [HPM.out] at hgiv
      have HGIV := Aside0.mk hgiv
      have HOA6 : Aside0 (∀ k, OA k → k < w6.heap.size) := ⟨fun k hk => by have := (HOA.out k hk).2; have := HZ5.out; have := HS6.out; have := HS4.out; omega⟩
      clear hgiv hlenOf hfrm b6 kg HA5 HR5 HB5 HKW HKN
      go_wp2
      refine wp_rangeH (gf := 56) (lb := #[.pointer (some ⟨gb, 0, none⟩)]) rfl (enters_of Try.func56 (by kernel_rfl) rfl)
        HGIV.out (.inr (.inl rfl)) (.inr (.inr rfl)) (fun _ => rfl)
        (fun pre V => V.heap[w4.heap.size + 1]? = some (.cells #[.int .i64 pre.length] 3 (0, 0)) ∧ V.heap[w4.heap.size]? = some (.cells #[.slice Aw want.length cw] 50 (0, 0)) ∧ Kd.R (oldK k25 we) 25 V we.heap.size (fun k => ¬ OA k ∧ k ≠ w2.heap.size) (.slice Aq (putsV ps).length cq) (putsV ps) ∧ Below we.heap.size we V)
        (fun cd pre V => (cd = .exit 2 ∧ (pre.length : Int) = a2) ∧ V.heap[w4.heap.size + 1]? = some (.cells #[.int .i64 pre.length] 3 (0, 0)) ∧ V.heap[w4.heap.size]? = some (.cells #[.slice Aw want.length cw] 50 (0, 0)) ∧ Kd.R (oldK k25 we) 25 V we.heap.size (fun k => ¬ OA k ∧ k ≠ w2.heap.size) (.slice Aq (putsV ps).length cq) (putsV ps) ∧ Below we.heap.size we V)
        ?hI ?hIx ⟨HKN6.out, HKW6.out, HR6.out, HB6.out⟩ ?round ?done ?stop
      case hI =>
        rintro s A B row ⟨h1, h2, h3, h4⟩ hg hr
        exact ⟨ownFrom_blk () A B row h1 hg hr, ownFrom_blk () A B row h2 hg hr, ownFrom_RK () A B row h3 hg hr, ownFrom_below (Nat.le_refl _) HB6.out.size () A B row h4 hg hr⟩
      case hIx =>
        rintro cd s A B row ⟨h0, h1, h2, h3, h4⟩ hg hr
        exact ⟨h0, ownFrom_blk () A B row h1 hg hr, ownFrom_blk () A B row h2 hg hr, ownFrom_RK () A B row h3 hg hr, ownFrom_below (Nat.le_refl _) HB6.out.size () A B row h4 hg hr⟩
      case round =>
        rintro l4 pre ⟨d, v⟩ V2 K ⟨h1, h2, h3, h4⟩ ⟨hpre, hR, _⟩ hV2 hK
        have hR : Kd.R k27 27 V2 w6.heap.size (fun _ => True) v d.f1 := hR
        have hpre : pre.map (·.1) ++ [d] <+: want := hpre
        obtain ⟨Av, cv, hv⟩ := Kd.R_slice hR
        subst hv
        have hlt3 : pre.length < want.length := by
          have h1 := hpre.length_le
          simp at h1; omega
        have hge : want[pre.length] = d := by
          have h1 := (List.prefix_iff_getElem.1 hpre).2 pre.length (by simp)
          simpa using h1.symm
        have hn400 : want.length ≤ 400 := by
          have h2 := putsV_len ps
          omega
        have HGE := Aside0.mk hge
        have HR := Aside0.mk hR
        have H1 := Aside0.mk h1
        have H2 := Aside0.mk h2
        have H3 := Aside0.mk h3
        have H4 := Aside0.mk h4
        have HKK := Aside0.mk hK
        clear hR h1 h2 h3 h4 hpre hK hge
        gi_wp2
        refine HKK.out _ _ (fun U => U.heap[V2.heap.size]? = some (.cells #[.bool d.f0, .slice Av d.f1.length cv] 25 (0, 0)) ∧ Kd.R k27 27 U w6.heap.size (fun _ => True) (.slice Av d.f1.length cv) d.f1 ∧ U.heap[w4.heap.size + 1]? = some (.cells #[.int .i64 pre.length] 3 (0, 0)) ∧ U.heap[w4.heap.size]? = some (.cells #[.slice Aw want.length cw] 50 (0, 0)) ∧ Kd.R (oldK k25 we) 25 U we.heap.size (fun k => ¬ OA k ∧ k ≠ w2.heap.size) (.slice Aq (putsV ps).length cq) (putsV ps) ∧ Below we.heap.size we U)
          ?zo2 ⟨heap_alloc_new V2 _, Kd.R_below HR.out (below_alloc (Below.refl _ _) _), blk_alloc H1.out _, blk_alloc H2.out _, Kd.R_below H3.out (below_alloc (Below.refl _ _) _), below_alloc H4.out _⟩ ((KeepsOthers.alloc _ _).from _) (Fr.of_below (below_alloc (Below.refl _ _) _)) ?_
        case zo2 =>
          rintro s A B row ⟨q1, q2, q3, q4, q5, q6⟩ hg hr
          exact ⟨ownFrom_blk () A B row q1 hg hr, ownFrom_R () A B row q2 hg hr, ownFrom_blk () A B row q3 hg hr, ownFrom_blk () A B row q4 hg hr, ownFrom_RK () A B row q5 hg hr, ownFrom_below (Nat.le_refl _) HB6.out.size () A B row q6 hg hr⟩
        rintro U ⟨q1, q2, q3, q4, q5, q6⟩ hUs
        have hz0 : (0 : Int) ≤ (pre.length : Int) := by omega
        have hz1 : (pre.length : Int) < (want.length : Int) := by omega
        have hz2 : ¬ (pre.length : Int) ≥ (want.length : Int) := by omega
        have hz3 : decide ((pre.length : Int) ≥ (want.length : Int)) = false := decide_eq_false hz2
        have hz4 : ¬ want.length ≤ pre.length := by omega
        obtain ⟨Aq', cq', hqe, _, hCq'⟩ := Kd.R_reads q5
        injection hqe with hqe1 _ hqe2
        subst hqe1 hqe2
        obtain ⟨hcw, hCw⟩ := HFC.out U (oldK_C hCq' q6)
        obtain ⟨aa, Ar, cr, eA, x0, x1, hcr, hCr⟩ := at_T25 hCw (pre.length : Int) hz0 hz1
        cases eA
        rw [rdD_at want _ hlt3, HGE.out] at x0 x1 hcr hCr
        simp only [Int.toNat_natCast] at x0 x1
        have hq2 := Kd.R_reads' q2
        have hsame := fun (s : SomeW U) => same_T d.f0 Av cv d.f1 d.f0 Ar cr d.f1 s.W (Kd.C_below hq2.2.2 s.h) hq2.2.1 (Kd.C_below hCr s.h) hcr
        rw [sameV_self, beq_self_eq_true, Bool.and_self] at hsame
        have L0 : ∀ s : SomeW U, s.W.cell? ⟨V2.heap.size, 0, none⟩ = some (.bool d.f0) := fun s => cell_some ((blk_cell q1 0).trans rfl) s
        have L1 : ∀ s : SomeW U, s.W.cell? ⟨V2.heap.size, 1, none⟩ = some (.slice Av d.f1.length cv) := fun s => cell_some ((blk_cell q1 1).trans rfl) s
        have L2 : ∀ s : SomeW U, s.W.cell? ⟨w4.heap.size + 1, 0, none⟩ = some (.int .i64 pre.length) := fun s => cell_some ((blk_cell q3 0).trans rfl) s
        have L3 : ∀ s : SomeW U, s.W.cell? ⟨w4.heap.size, 0, none⟩ = some (.slice (some aa) want.length cw) := fun s => cell_some ((blk_cell q4 0).trans rfl) s
        have L4 : ∀ s : SomeW U, s.W.cell? (aa.add (pre.length * 2)) = some (.bool d.f0) := fun s => cell_some x0 s
        have L5 : ∀ s : SomeW U, s.W.cell? ⟨(aa.add (pre.length * 2)).block, (aa.add (pre.length * 2)).off + 1, none⟩ = some (.slice Ar d.f1.length cr) := fun s => cell_some x1 s
        have Q3 := Aside0.mk q3
        have Q4 := Aside0.mk q4
        have Q5 := Aside0.mk q5
        have Q6 := Aside0.mk q6
        have HN4 := Aside0.mk hn400
        clear q1 q2 q3 q4 q5 q6 x0 x1 hcr hCr hq2 hz0 hCw hcw hCq'
        gi_wp2
        refine wpIn_region_quiet_some mixed_T (by kernel_rfl) (by kernel_rfl) (by rintro ⟨_, _, h⟩; exact h) ?_
        repeat (go_big_quiet_step (first | (go_at_call 18; refine Calls.below_some (hsame _))))
        refine wpQuiet_nil ?_
        intro U3 hw'
        obtain ⟨p_, hp_⟩ := hw'
        have hbU : Below U.heap.size U U3 := by rw [hp_]; exact p_.h
        clear hp_ p_ L0 L1 L2 L3 L4 L5 hsame hz1 hz2 hz3 hz4
        have m0 := (blk_cell (blk_below Q3.out hbU) 0).trans rfl
        have mf := blk_frozen (blk_below Q3.out hbU) 0
        have hlv := blk_below HK1e.out (below_then Q6.out Q6.out.size hbU)
        have hne2 : W.heap.size + 1 ≠ w4.heap.size + 1 := by have := (Array.getElem?_eq_some_iff.1 HK1e.out).1; have := HWR.out; have := HS4.out; omega
        have n1 := (blk_cell ((Sk.heap_set_ne U3 (w4.heap.size + 1) 0 (W.heap.size + 1) (.int .i64 ((pre.length : Int) + 1)) hne2).trans hlv) 0).trans rfl
        have n0 := (blk_cell (blk_set (blk_below Q3.out hbU) 0 (.int .i64 ((pre.length : Int) + 1))) 0).trans rfl
        have HBU := Aside0.mk hbU
        have HLV := Aside0.mk hlv
        have hnn : ((pre ++ [(d, Value.slice Av d.f1.length cv)]).length : Int) = (pre.length : Int) + 1 := by simp
        have HNN := Aside0.mk hnn
        have hfin : (U3.setCell ⟨w4.heap.size + 1, 0, none⟩ (.int .i64 ((pre.length : Int) + 1))).heap[w4.heap.size + 1]? = some (.cells #[.int .i64 ((pre ++ [(d, Value.slice Av d.f1.length cv)]).length : Nat)] 3 (0, 0)) := by
          rw [hnn]; exact blk_set (blk_below Q3.out hbU) 0 _
        have HFIN := Aside0.mk (And.intro hfin (And.intro ((Sk.heap_set_ne U3 (w4.heap.size + 1) 0 w4.heap.size (.int .i64 ((pre.length : Int) + 1)) (by omega)).trans (blk_below Q4.out hbU)) (And.intro (Kd.R_set (Kd.R_below Q5.out hbU) (blk_below Q3.out hbU) (by intro q hq; simp [oldK] at hq; omega) 0 (.int .i64 ((pre.length : Int) + 1))) (below_set (j := 0) (v := .int .i64 ((pre.length : Int) + 1)) (below_then Q6.out Q6.out.size hbU) (show we.heap.size ≤ w4.heap.size + 1 by have := HWR.out; have := HS4.out; omega)))))
        clear hbU hlv hne2 hnn hfin
        by_cases hlv : (pre.length : Int) + 1 = a2
        · have hlvb : ((pre.length : Int) + 1 == a2) = true := beq_iff_eq.2 hlv
          have HLV := Aside0.mk hlv
          clear hlv
          gi_wp2
          exact ⟨keepsFrom_set (keepsFrom_below HBU.out) _ _ _, (Fr.of_below HBU.out).set (.inl (.inl rfl)) _ _, ⟨rfl, HNN.out.trans HLV.out⟩, HFIN.out⟩
        · have hlvb : ((pre.length : Int) + 1 == a2) = false := beq_eq_false_iff_ne.2 hlv
          gi_wp2
          exact ⟨keepsFrom_set (keepsFrom_below HBU.out) _ _ _, (Fr.of_below HBU.out).set (.inl (.inl rfl)) _ _, HFIN.out⟩
      case done =>
        rintro xs2 U hxs2 ⟨h1, h2, h3, h4⟩ hD2
        have hxl : xs2.length = want.length := by
          have h := congrArg List.length (show xs2.map (·.1) = want from hxs2)
          rwa [List.length_map] at h
        rw [hxl] at h1
        have n0 := (blk_cell h1 0).trans rfl
        have a0_ := (blk_cell h2 0).trans rfl
        have hk4 := blk_below HK2e.out h4
        have r0 := (blk_cell hk4 0).trans rfl
        have rf := blk_frozen hk4 0
        have HK4 := Aside0.mk hk4
        have HD2' := Aside0.mk hD2
        have HBF := Aside0.mk (below_then HBe.out HBe.out.size h4)
        have HLT := Aside0.mk (Array.getElem?_eq_some_iff.1 HK2e.out).1
        have h69 : W.heap.size + 2 < w6.heap.size := by have := HLT.out; have := HWR.out; have := HS4.out; have := HZ5.out; have := HS6.out; omega
        clear h1 h2 h3 h4 hD2 hxl hk4 hxs2
        generalize want.length = wl at *
        go_wp2
        refine ⟨by simp, .inl ⟨_, _, rfl, run_takeDeferred ((Sk.heap_set_ne _ _ _ _ _ (by omega)).trans HD2'.out), ?_⟩⟩
        have hcf := (World.putObj_heap_other (o := .deferred none) (r := w6.heap.size) (show W.heap.size + 2 ≠ w6.heap.size by omega)).trans (blk_set HK4.out 0 (.bool true))
        refine ⟨.bool true, ?_, rfl, below_put (below_set HBF.out (by omega)) (by omega) _⟩
        simp [results, Try.f10, go_sem, (blk_cell hcf 0).trans rfl]
      case stop =>
        rintro cd xs2 U hxs2 ⟨⟨rfl, hlv⟩, h1, h2, h3, h4⟩ hD2
        rw [hlv] at h1
        have n0 := (blk_cell h1 0).trans rfl
        have a0_ := (blk_cell h2 0).trans rfl
        have hk4 := blk_below HK2e.out h4
        have hk5 := blk_below HK1e.out h4
        have l0_ := (blk_cell hk5 0).trans rfl
        have r0 := (blk_cell hk4 0).trans rfl
        have rf := blk_frozen hk4 0
        have HK4 := Aside0.mk hk4
        have HD2' := Aside0.mk hD2
        have HBF := Aside0.mk (below_then HBe.out HBe.out.size h4)
        have HLT := Aside0.mk (Array.getElem?_eq_some_iff.1 HK2e.out).1
        have h69 : W.heap.size + 2 < w6.heap.size := by have := HLT.out; have := HWR.out; have := HS4.out; have := HZ5.out; have := HS6.out; omega
        clear h1 h2 h3 h4 hD2 hlv hk4 hk5 hxs2
        generalize want.length = wl at *
        by_cases hq : a2 = (wl : Int)
        · have hqb : (a2 == (wl : Int)) = true := beq_iff_eq.2 hq
          clear hq
          go_wp2
          refine ⟨by simp, .inl ⟨_, _, rfl, run_takeDeferred ((Sk.heap_set_ne _ _ _ _ _ (by omega)).trans HD2'.out), ?_⟩⟩
          have hcf := (World.putObj_heap_other (o := .deferred none) (r := w6.heap.size) (show W.heap.size + 2 ≠ w6.heap.size by omega)).trans (blk_set HK4.out 0 (.bool true))
          refine ⟨.bool true, ?_, rfl, below_put (below_set HBF.out (by omega)) (by omega) _⟩
          simp [results, Try.f10, go_sem, (blk_cell hcf 0).trans rfl]
        · have hqb : (a2 == (wl : Int)) = false := beq_eq_false_iff_ne.2 hq
          go_wp2
          refine ⟨by simp, .inl ⟨_, _, rfl, run_takeDeferred ((Sk.heap_set_ne _ _ _ _ _ (by omega)).trans HD2'.out), ?_⟩⟩
          have hcf := (World.putObj_heap_other (o := .deferred none) (r := w6.heap.size) (show W.heap.size + 2 ≠ w6.heap.size by omega)).trans (blk_set HK4.out 0 (.bool true))
          refine ⟨.bool true, ?_, rfl, below_put (below_set HBF.out (by omega)) (by omega) _⟩
          simp [results, Try.f10, go_sem, (blk_cell hcf 0).trans rfl]
end Go.Proofs.Ytnfliommpdjlkaa.Pr
