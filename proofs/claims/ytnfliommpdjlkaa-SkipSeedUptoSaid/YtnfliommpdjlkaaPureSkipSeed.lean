/- The law SkipSeed: its walk. -/
import Derived.Test.YtnfliommpdjlkaaSkY
import Derived.Deep.RegionWith
import Derived.RangeFuncNested
import Derived.Sort.LoopGhostIn
import Derived.Stop.RegionWithIn
import Derived.RegionIn
import Derived.RangeFuncBound
import Derived.RangeFuncCalls
import Derived.RangeFuncLeaves
import Derived.OwnWalkIn
import Derived.TacticsInMore
import Derived.LoopNIn
import Derived.LoopIn
import Derived.Shelf.AbstractIn
namespace Go.Proofs.Ytnfliommpdjlkaa.Pr
open Go.RowKit Go.Proofs.Ytnfliommpdjlkaa.Brid Go.Proofs.YtnfliommpdjlkaaW.PrintWords Go.Proofs.YtnfliommpdjlkaaW.PrintLast Go.Proofs.YtnfliommpdjlkaaW.PrintMore
set_option linter.unusedVariables false
set_option linter.unusedSimpArgs false
set_option maxHeartbeats 4000000
set_option maxRecDepth 100000
attribute [local go_sem] Oper.semAt_some
theorem ownFrom_R25 {β : Type} {B n0 : Nat} {v : Value} {l : List S25} : OwnFrom B (fun (_ : β) V => Kd.R k25 25 V n0 (fun _ => True) v l) := by
  intro s A A' row h hg hr
  refine Kd.R_mono (Kd.R_move (Kd.R_bound h) (fun k hk => hg.block k hk.2.2.1 (fun e => ?_))) (fun _ _ => trivial)
  obtain ⟨_, o, ho, hc⟩ := hr k e.symm
  obtain ⟨_, _, _, q, _, cells, hcell⟩ := hk
  rw [hcell] at ho
  cases ho
  cases hc
theorem k25_E (t : Nat) (h1 : t ≠ 27) (h2 : t ≠ 25) : ∀ q, q ∈ 25 :: k25.E → q ≠ t := by
  intro q hq
  simp [k25, k27, Kd.iso, Kd.pair, Kd.slice, Kd.bool, Kd.int, Kd.string, Kd.scalar] at hq
  omega
/-- a deed behind the deeds gathered so far: its row is not the gathered row's own block -/
theorem gather_M {U : World} {B : Nat} {av : Value} {l : List S25} {d : S25} {v : Value} (hL : Kd.R k25 25 U B (fun _ => True) av l) (hR : Kd.R k27 27 U B (fun _ => True) v d.f1) :
    k25.M U B (fun k => some k ≠ av.ownBlock) d [.bool d.f0, v] := by
  refine k25_mkM U B _ d (Kd.R_mono (Kd.R_bound hR) (fun k hk e => ?_))
  obtain ⟨_, _, _, q, hq, cells, hc⟩ := hk
  obtain ⟨cs, hcs⟩ := Kd.R_typed hL k e.symm
  rw [hc] at hcs
  cases hcs
  exact k27_E 25 (by decide) _ hq rfl
/-- behind a round that gathered one -/
theorem gather_fin {we U w1 : World} {a0 B pA pB : Nat} {av v1 : Value} {l : List S25} {d : S25} {OA OB : Nat → Prop} {na nb : List (Sk.Nd S25)}
    (q3 : U.heap[a0]? = some (.cells #[av] 50 (0, 0))) (q4 : Kd.R k25 25 U (B + 4) (fun _ => True) av l) (qA : SkL U OA pA na) (qB : SkL U OB pB nb) (q7 : Below we.heap.size we U)
    (hR1 : Kd.R k25 25 w1 (B + 4) (fun _ => True) v1 (l ++ [d])) (hg1 : U.grownBy w1 av.ownBlock) (hA : ∀ k, OA k → k < a0) (hB : ∀ k, OB k → k < a0) (ha0 : a0 < B) (hwe : we.heap.size ≤ a0) :
    KeepsFrom B U (w1.setCell ⟨a0, 0, none⟩ v1) ∧ Fr (fun k => k = a0 ∨ k = B ∨ k = B + 1 ∨ B + 4 ≤ k) U (w1.setCell ⟨a0, 0, none⟩ v1) ∧
      ∃ av', (w1.setCell ⟨a0, 0, none⟩ v1).heap[a0]? = some (.cells #[av'] 50 (0, 0)) ∧ Kd.R k25 25 (w1.setCell ⟨a0, 0, none⟩ v1) (B + 4) (fun _ => True) av' (l ++ [d]) ∧
        SkL (w1.setCell ⟨a0, 0, none⟩ v1) OA pA na ∧ SkL (w1.setCell ⟨a0, 0, none⟩ v1) OB pB nb ∧ Below we.heap.size we (w1.setCell ⟨a0, 0, none⟩ v1) := by
  have hown : ∀ k, some k = av.ownBlock → B + 4 ≤ k := fun k e => ((Kd.R_bound q4).1 k e.symm).2.1
  have hcell : ∀ k, some k = av.ownBlock → ∃ cs, U.heap[k]? = some (.cells cs 25 (0, 0)) := fun k e => Kd.R_typed q4 k e.symm
  have ha : w1.heap[a0]? = some (.cells #[av] 50 (0, 0)) := (hg1.block _ (Array.getElem?_eq_some_iff.1 q3).1 (fun e => by have := hown _ e; omega)).trans q3
  have hk1 : KeepsFrom B U w1 := ⟨hg1.size, fun k o _ ho hc => (hg1.block k (Array.getElem?_eq_some_iff.1 ho).1 (fun e => by
    obtain ⟨cs, hcs⟩ := hcell k e
    rw [hcs] at ho; cases ho; cases hc)).trans ho⟩
  have hf1 : Fr (fun k => k = a0 ∨ k = B ∨ k = B + 1 ∨ B + 4 ≤ k) U w1 := ⟨hg1.os, hg1.tape, hg1.output, hg1.size, fun k hk hn => hg1.block k hk (fun e => hn (.inr (.inr (.inr (hown k e)))))⟩
  have hf2 := hf1.set (q := a0) (.inl (.inl rfl)) 0 v1
  refine ⟨keepsFrom_set hk1 _ _ _, hf2, v1, blk_set ha 0 _, Kd.R_set hR1 ha (k25_E 50 (by decide) (by decide)) 0 v1, ?_, ?_, ?_⟩
  · exact qA.keep (fun k hk hkl => hf2.block k hkl (fun h => by have := hA k hk; omega))
  · exact qB.keep (fun k hk hkl => hf2.block k hkl (fun h => by have := hB k hk; omega))
  · exact below_fr q7 hf2 (fun k h => by omega)
theorem gather_blk {U w1 : World} {a0 B : Nat} {av : Value} {l : List S25} (q3 : U.heap[a0]? = some (.cells #[av] 50 (0, 0))) (q4 : Kd.R k25 25 U (B + 4) (fun _ => True) av l) (hg1 : U.grownBy w1 av.ownBlock) (ha0 : a0 < B) :
    w1.heap[a0]? = some (.cells #[av] 50 (0, 0)) :=
  (hg1.block _ (Array.getElem?_eq_some_iff.1 q3).1 (fun e => by have := ((Kd.R_bound q4).1 a0 e.symm).2.1; omega)).trans q3
theorem show_goal {p : Prop} (h : Aside0 p) : p := h.out
theorem SkipSeed_walk (W : World) (a0 : Int) (b0 : (Lit.int .u64 a0).wf = true) (a1 : Int) (b1 : (Lit.int .u64 a1).wf = true) (A2 : Option Addr) (c2 : Nat) (l2 : List (S25)) (hc2 : l2.length ≤ c2) (hr2 : Kd.C k25 W A2 l2.length l2) (b2 : BL B25 l2 1048576) :
    Calls Try.prog 12 #[.int .u64 a0, .int .u64 a1, .slice A2 l2.length c2] W fun e W' => e = .returned (.bool true) ∧ Below W.heap.size W W' := by
  have hlens : ∀ d ∈ l2.take 400, d.f1.length ≤ 4398046511103 := fun d hd => by
    have : d.f1.length ≤ 1048576 := (b2.2 d (List.mem_of_mem_take hd)).2.1
    omega
  have hstrs : ∀ d ∈ l2.take 400, ∀ v ∈ d.f1, v.f2.size ≤ 1048576 := fun d hd v hv => ((b2.2 d (List.mem_of_mem_take hd)).2.2 v hv).2.2
  have hl400 : (l2.take 400).length ≤ 400 := by rw [List.length_take]; omega
  generalize hps : l2.take 400 = ps at *
  have B1 := below_alloc (Below.refl W.heap.size W) (.cells #[.bool false] 4)
  have K1 := heap_alloc_new W (.cells #[.bool false] 4)
  have HC0 := Aside0.mk hr2
  have HB1 := Aside0.mk B1
  have HK1 := Aside0.mk K1
  have HLENS := Aside0.mk hlens
  have HPS := Aside0.mk hps
  have HSTRS := Aside0.mk hstrs
  clear B1 K1 hr2 b0 b1 b2 hlens hps hstrs
  refine (callsIn_wide (n := 1)).1 (callsIn_of_wp_marks Try.func12 rfl trivial ?_ rfl)
  simp only [Try.ntmps12, List.size_toArray, List.length_cons, List.length_nil, Nat.reduceAdd, Nat.reduceSub, Array.replicate_succ, Array.replicate_zero, List.push_toArray, List.append_toArray, List.nil_append, List.cons_append]
  refine wpIn_wide.2 ?_
  go_wp2_with fail
  refine (lives_T _).mono ?_
  rintro e w1 ⟨rfl, hb1⟩
  have HB2 := Aside0.mk (below_then HB1.out HB1.out.size hb1)
  have HK2 := Aside0.mk (blk_below HK1.out hb1)
  clear hb1 HB1 HK1
  go_wp2_with fail
  refine (early_T A2 c2 l2 w1 (Kd.C_below HC0.out HB2.out) hc2).mono ?_
  rintro e we ⟨A, c, rfl, hce, hCe, hbe⟩
  rw [HPS.out] at hce hCe ⊢
  have HBe := Aside0.mk (below_then HB2.out HB2.out.size hbe)
  have HKe := Aside0.mk (blk_below HK2.out hbe)
  have HCe := Aside0.mk hCe
  clear hbe hCe HB2 HK2 HC0
  go_wp2_with fail
  refine (New_T a0 we).mono ?_
  rintro e w2 ⟨rfl, hb2, H2⟩
  have HL2 := Aside0.mk H2
  have HBl := Aside0.mk hb2
  clear hb2 H2
  go_wp2_with fail
  refine (New_T a1 w2).mono ?_
  rintro e w3 ⟨rfl, hb3, H3⟩
  have HLA : Aside0 (SkL w3 (fun k => we.heap.size ≤ k ∧ k < w2.heap.size) we.heap.size []) := ⟨HL2.out.bound.below hb3⟩
  have HLB : Aside0 (SkL w3 (fun k => w2.heap.size ≤ k ∧ k < w3.heap.size) w2.heap.size []) := ⟨H3.bound⟩
  have HW23 : Aside0 (we.heap.size ≤ w2.heap.size) := ⟨HBl.out.size⟩
  have HB3 := Aside0.mk (below_then HBl.out HBl.out.size hb3)
  clear hb3 H3 HL2 HBl
  go_wp2
  go_loopg [9] ps.length (fun kx a wr => ∃ i : Nat, a = .int .i64 i ∧ i ≤ ps.length ∧ ps.length - i ≤ kx ∧ Aside0 (Below w3.heap.size w3 wr) ∧ Aside0 (∀ (i1 j1 : Nat) (h1 : i1 < ps.length) (h2 : j1 < ps.length), j1 < i1 → i1 < i → Apart25 ps[j1] ps[i1]))
  case atStart => exact ⟨0, rfl, Nat.zero_le _, by omega, ⟨Below.refl _ _⟩, ⟨fun _ _ _ _ _ h => absurd h (Nat.not_lt_zero _)⟩⟩
  case round =>
    obtain ⟨i, rfl, hi, hkx, B2, HAP⟩ := hrel
    by_cases hlt : i < ps.length
    · have hltz : (i : Int) < (ps.length : Int) := by omega
      have hiz : (0 : Int) ≤ (i : Int) := by omega
      go_wp2
      obtain ⟨wo, rfl⟩ : ∃ wo, wo = wr := ⟨_, rfl⟩
      go_loopg [10] ps.length (fun kx a wr => ∃ j : Nat, a = .int .i64 j ∧ j ≤ i ∧ i - j ≤ kx ∧ Aside0 (Below wo.heap.size wo wr) ∧ Aside0 (∀ (j1 : Nat) (h2 : j1 < ps.length), j1 < j → Apart25 ps[j1] ps[i]))
      case atStart => exact ⟨0, rfl, Nat.zero_le _, by omega, ⟨Below.refl _ _⟩, ⟨fun _ _ h => absurd h (Nat.not_lt_zero _)⟩⟩
      case round =>
        obtain ⟨j, rfl, hj, hkj, BI, HAI⟩ := hrel
        by_cases hltj : j < i
        · have hjz : (j : Int) < (i : Int) := by omega
          have hjn : (0 : Int) ≤ (j : Int) := by omega
          have hjl : j < ps.length := by omega
          have hjlz : (j : Int) < (ps.length : Int) := by omega
          have HBW := Aside0.mk (below_then HB3.out HB3.out.size (below_then B2.out B2.out.size BI.out))
          obtain ⟨adj, Arj, crj, eAj, xj0, xj1, hcrj, hCrj⟩ := at_T25 (Kd.C_below HCe.out HBW.out) (j : Int) hjn hjlz
          cases eAj
          obtain ⟨adi, Ari, cri, eAi, xi0, xi1, hcri, hCri⟩ := at_T25 (Kd.C_below HCe.out HBW.out) (i : Int) hiz hltz
          cases eAi
          rw [rdD_at ps i hlt] at xi0 xi1 hcri hCri
          rw [rdD_at ps j hjl] at xj0 xj1 hcrj hCrj
          simp only [Int.toNat_natCast] at xi0 xi1 xj0 xj1
          have HKJ : Aside0 (0 < ps[j].f1.length → (keyT ps[j]).f2.size ≤ 1048576) := ⟨fun h => HSTRS.out _ (List.getElem_mem hjl) _ (keyT_mem h)⟩
          have HKI : Aside0 (0 < ps[i].f1.length → (keyT ps[i]).f2.size ≤ 1048576) := ⟨fun h => HSTRS.out _ (List.getElem_mem hlt) _ (keyT_mem h)⟩
          have HAJ : Aside0 (Apart25 ps[j] ps[i] → ∀ (j1 : Nat) (h2 : j1 < ps.length), j1 < j + 1 → Apart25 ps[j1] ps[i]) := ⟨fun ha j1 h2 hj1 => by
            by_cases e : j1 = j
            · subst e; exact ha
            · exact HAI.out j1 h2 (by omega)⟩
          clear HAI HAP
          generalize ps[j] = dj at *
          generalize ps[i] = di at *
          have XJ1 : ∀ s : SomeW wr, s.W.cell? ⟨(adj.add (j * 2)).block, (adj.add (j * 2)).off + 1, none⟩ = some (.slice Arj dj.f1.length crj) := fun s => cell_some xj1 s
          have XI1 : ∀ s : SomeW wr, s.W.cell? ⟨(adj.add (i * 2)).block, (adj.add (i * 2)).off + 1, none⟩ = some (.slice Ari di.f1.length cri) := fun s => cell_some xi1 s
          clear hcrj hcri xi0 xi1 xj0 xj1
          by_cases hemi : di.f1.length = 0
          · have hap : Apart25 dj di := fun _ h => absurd hemi h
            have hp1 : ¬ (di.f1.length : Int) > 0 := by omega
            have hp2 : decide ((di.f1.length : Int) > 0) = false := decide_eq_false hp1
            have hp4 : ¬ 0 < di.f1.length := by omega
            clear hCri hCrj
            go_wp2
            refine wp_region_quiet_some mixed_T (by kernel_rfl) ?_
            repeat (go_big_quiet_step (fail))
            refine wpQuiet_nil ?_
            intro U3 hw'
            obtain ⟨p_, hp_⟩ := hw'
            have hbU : Below wr.heap.size wr U3 := by rw [hp_]; exact p_.h
            clear hp_ p_ XJ1 XI1 hp1 hp2 hp4 hemi
            have HBU := Aside0.mk (below_then BI.out BI.out.size hbU)
            clear hbU
            go_wp2
            go_roundg (i - (j + 1))
            case measure => omega
            case rel => exact ⟨j + 1, by go_num, by omega, by omega, HBU, ⟨HAJ.out hap⟩⟩
          · have hpz := Nat.pos_of_ne_zero hemi
            have hp1 : (di.f1.length : Int) > 0 := by omega
            have hp2 : decide ((di.f1.length : Int) > 0) = true := decide_eq_true hp1
            have hp4 : 0 < di.f1.length := by omega
            by_cases hemj : dj.f1.length = 0
            · have hap : Apart25 dj di := fun h => absurd hemj h
              have hq1 : ¬ (dj.f1.length : Int) > 0 := by omega
              have hq2 : decide ((dj.f1.length : Int) > 0) = false := decide_eq_false hq1
              have hq4 : ¬ 0 < dj.f1.length := by omega
              clear hCri hCrj
              go_wp2
              refine wp_region_quiet_some mixed_T (by kernel_rfl) ?_
              repeat (go_big_quiet_step (fail))
              refine wpQuiet_nil ?_
              intro U3 hw'
              obtain ⟨p_, hp_⟩ := hw'
              have hbU : Below wr.heap.size wr U3 := by rw [hp_]; exact p_.h
              clear hp_ p_ XJ1 XI1 hp1 hp2 hp4 hq1 hq2 hq4 hemi hemj hpz
              have HBU := Aside0.mk (below_then BI.out BI.out.size hbU)
              clear hbU
              go_wp2
              go_roundg (i - (j + 1))
              case measure => omega
              case rel => exact ⟨j + 1, by go_num, by omega, by omega, HBU, ⟨HAJ.out hap⟩⟩
            · have hqz := Nat.pos_of_ne_zero hemj
              have hq1 : (dj.f1.length : Int) > 0 := by omega
              have hq2 : decide ((dj.f1.length : Int) > 0) = true := decide_eq_true hq1
              have hq4 : 0 < dj.f1.length := by omega
              obtain ⟨akj, eK, yj0, yj1, yj2⟩ := at_T27 (show Kd.C k27 wr Arj dj.f1.length dj.f1 from hCrj) (0 : Int) (by omega) hq1
              cases eK
              obtain ⟨aki, eK, yi0, yi1, yi2⟩ := at_T27 (show Kd.C k27 wr Ari di.f1.length di.f1 from hCri) (0 : Int) (by omega) hp1
              cases eK
              have YJ0 : ∀ s : SomeW wr, s.W.cell? akj = some (.bool (keyT dj).f0) := fun s => cell_some yj0 s
              have YJ1 : ∀ s : SomeW wr, s.W.cell? ⟨akj.block, akj.off + 1, none⟩ = some (.int .i64 (keyT dj).f1) := fun s => cell_some yj1 s
              have YJ2 : ∀ s : SomeW wr, s.W.cell? ⟨akj.block, akj.off + 2, none⟩ = some (.string (keyT dj).f2) := fun s => cell_some yj2 s
              have YI0 : ∀ s : SomeW wr, s.W.cell? aki = some (.bool (keyT di).f0) := fun s => cell_some yi0 s
              have YI1 : ∀ s : SomeW wr, s.W.cell? ⟨aki.block, aki.off + 1, none⟩ = some (.int .i64 (keyT di).f1) := fun s => cell_some yi1 s
              have YI2 : ∀ s : SomeW wr, s.W.cell? ⟨aki.block, aki.off + 2, none⟩ = some (.string (keyT di).f2) := fun s => cell_some yi2 s
              have hcmp := fun V1 => compare_T (keyT di) (keyT dj) V1 (by have := HKI.out hpz; omega) (by have := HKJ.out hqz; omega)
              have heq := cmp_eqK (keyT di) (keyT dj)
              have hp0 : (0 : Int) < (di.f1.length : Int) := hp1
              have hq0 : (0 : Int) < (dj.f1.length : Int) := hq1
              clear hCri hCrj yj0 yj1 yj2 yi0 yi1 yi2
              by_cases hq : eqK (keyT di) (keyT dj) = true
              · have hc0 := heq.2 hq
                have hc1 : (Thy.cmpV (keyT di).f0 (keyT di).f1 (keyT di).f2 (keyT dj).f0 (keyT dj).f1 (keyT dj).f2 == 0) = true := beq_iff_eq.2 hc0
                clear heq hq HAJ
                generalize hcv : Thy.cmpV (keyT di).f0 (keyT di).f1 (keyT di).f2 (keyT dj).f0 (keyT dj).f1 (keyT dj).f2 = cmv at *
                clear hcv
                go_wp2
                refine wp_region_quiet_some mixed_T (by kernel_rfl) ?_
                repeat (go_big_quiet_step (first | (go_at_call 37; refine Calls.below_some (hcmp _))))
                refine wpQuiet_nil ?_
                intro U3 hw'
                obtain ⟨p_, hp_⟩ := hw'
                have hbU : Below wr.heap.size wr U3 := by rw [hp_]; exact p_.h
                clear hp_ p_ XJ1 XI1 hp1 hp2 hp4 hq1 hq2 hq4 hp0 hq0 hemi hemj hpz hqz hcmp YJ0 YJ1 YJ2 YI0 YI1 YI2
                have HBU := Aside0.mk (below_then HB3.out HB3.out.size (below_then B2.out B2.out.size (below_then BI.out BI.out.size hbU)))
                clear hbU
                have r0 := (blk_cell (blk_below HKe.out HBU.out) 0).trans rfl
                have rf := blk_frozen (blk_below HKe.out HBU.out) 0
                go_wp2
                refine ⟨.bool true, ?_, rfl, below_set (below_then HBe.out HBe.out.size HBU.out) (Nat.le_refl _)⟩
                simp [results, Try.f12, go_sem, (blk_cell (blk_set (blk_below HKe.out HBU.out) 0 _) 0).trans rfl]
              · have hap : Apart25 dj di := fun _ _ => by simpa using hq
                have hc0 : ¬ Thy.cmpV (keyT di).f0 (keyT di).f1 (keyT di).f2 (keyT dj).f0 (keyT dj).f1 (keyT dj).f2 = 0 := fun h => hq (heq.1 h)
                have hc1 : (Thy.cmpV (keyT di).f0 (keyT di).f1 (keyT di).f2 (keyT dj).f0 (keyT dj).f1 (keyT dj).f2 == 0) = false := beq_eq_false_iff_ne.2 hc0
                clear heq hq
                generalize hcv : Thy.cmpV (keyT di).f0 (keyT di).f1 (keyT di).f2 (keyT dj).f0 (keyT dj).f1 (keyT dj).f2 = cmv at *
                clear hcv
                go_wp2
                refine wp_region_quiet_some mixed_T (by kernel_rfl) ?_
                repeat (go_big_quiet_step (first | (go_at_call 37; refine Calls.below_some (hcmp _))))
                refine wpQuiet_nil ?_
                intro U3 hw'
                obtain ⟨p_, hp_⟩ := hw'
                have hbU : Below wr.heap.size wr U3 := by rw [hp_]; exact p_.h
                clear hp_ p_ XJ1 XI1 hp1 hp2 hp4 hq1 hq2 hq4 hp0 hq0 hemi hemj hpz hqz hcmp YJ0 YJ1 YJ2 YI0 YI1 YI2
                have HBU := Aside0.mk (below_then BI.out BI.out.size hbU)
                clear hbU
                go_wp2
                go_roundg (i - (j + 1))
                case measure => omega
                case rel => exact ⟨j + 1, by go_num, by omega, by omega, HBU, ⟨HAJ.out hap⟩⟩
        · have hej : j = i := by omega
          have hjz : ¬ (j : Int) < (i : Int) := by omega
          have HB9 := Aside0.mk (below_then B2.out B2.out.size BI.out)
          have HAP' : Aside0 (∀ (i1 j1 : Nat) (h1 : i1 < ps.length) (h2 : j1 < ps.length), j1 < i1 → i1 < i + 1 → Apart25 ps[j1] ps[i1]) := ⟨fun i1 j1 h1 h2 h3 h4 => by
            by_cases e : i1 = i
            · subst e; exact HAI.out j1 h2 (by omega)
            · exact HAP.out i1 j1 h1 h2 h3 (by omega)⟩
          clear HAI HAP hej
          go_wp2
          go_roundg (ps.length - (i + 1))
          case measure => omega
          case rel => exact ⟨i + 1, by go_num, by omega, by omega, HB9, HAP'⟩
    · have hie : i = ps.length := by omega
      have hltz : ¬ (i : Int) < (ps.length : Int) := by omega
      have HPW : Aside0 (ps.Pairwise Apart25) := ⟨List.pairwise_iff_getElem.2 fun j1 i1 h2 h1 h3 => HAP.out i1 j1 h1 h2 h3 (by omega)⟩
      clear HAP
      go_wp2
      obtain ⟨wp, rfl⟩ : ∃ wp, wp = wr := ⟨_, rfl⟩
      have HA0 := Aside0.mk (HLA.out.below B2.out)
      have HB0 := Aside0.mk (HLB.out.below B2.out)
      have HBW0 := Aside0.mk (below_then HB3.out HB3.out.size B2.out)
      have HOA0 : Aside0 (∀ k, (we.heap.size ≤ k ∧ k < w2.heap.size) → we.heap.size ≤ k ∧ k < wp.heap.size) := ⟨fun k hk => ⟨hk.1, Nat.lt_of_lt_of_le (Nat.lt_of_lt_of_le hk.2 (Nat.le_of_lt HLB.out.m.chain.head.lt)) B2.out.size⟩⟩
      have HOB0 : Aside0 (∀ k, (w2.heap.size ≤ k ∧ k < w3.heap.size) → we.heap.size ≤ k ∧ k < wp.heap.size) := ⟨fun k hk => ⟨Nat.le_trans HW23.out hk.1, Nat.lt_of_lt_of_le hk.2 B2.out.size⟩⟩
      have HDJ0 : Aside0 (∀ k, (we.heap.size ≤ k ∧ k < w2.heap.size) → ¬ (w2.heap.size ≤ k ∧ k < w3.heap.size)) := ⟨fun k h1 h2 => by omega⟩
      clear B2 HLA HLB
      go_loopg [11] ps.length (fun kx a U => ∃ (i : Nat) (na nb : List (Sk.Nd S25)) (OA OB : Nat → Prop), a = .int .i64 i ∧ i ≤ ps.length ∧ ps.length - i ≤ kx ∧ Aside0 (SkL U OA we.heap.size na) ∧ Aside0 (SkL U OB w2.heap.size nb) ∧ Aside0 (na.map (·.d) = putsV (ps.take i)) ∧ Aside0 (nb.map (·.d) = putsV (ps.reverse.take i)) ∧ Aside0 (∀ k, OA k → we.heap.size ≤ k ∧ k < U.heap.size) ∧ Aside0 (∀ k, OB k → we.heap.size ≤ k ∧ k < U.heap.size) ∧ Aside0 (∀ k, OA k → ¬ OB k) ∧ Aside0 (Below we.heap.size we U))
      case atStart => exact ⟨0, [], [], _, _, rfl, Nat.zero_le _, by omega, HA0, HB0, ⟨rfl⟩, ⟨rfl⟩, HOA0, HOB0, HDJ0, HBW0⟩
      case round =>
        clear HA0 HB0 HOA0 HOB0 HDJ0 HBW0
        obtain ⟨i2, na, nb, OA, OB, rfl, hi2, hkx2, HA, HB, HDA, HDB, HOA, HOB, HDJ, HBW⟩ := hrel
        by_cases hlt2 : i2 < ps.length
        · have hltz2 : (i2 : Int) < (ps.length : Int) := by omega
          have hiz2 : (0 : Int) ≤ (i2 : Int) := by omega
          obtain ⟨ad, Ar, cr, eA, x0, x1, hcr, hCr⟩ := at_T25 (Kd.C_below HCe.out HBW.out) (i2 : Int) hiz2 hltz2
          cases eA
          rw [rdD_at ps i2 hlt2] at x0 x1 hcr hCr
          have hnl : ∀ (l : List S25) (m : List (Sk.Nd S25)), m.map (·.d) = putsV (l.take i2) → m.length ≤ 400 := fun l m h => by
            have h1 := congrArg List.length h
            have h2 := putsV_len (l.take i2)
            rw [List.length_map] at h1
            rw [List.length_take] at h2
            omega
          have hput := PutAny_T we.heap.size ps[i2] Ar cr na (ps.take i2) _ wr HA.out hCr hcr (HLENS.out _ (List.getElem_mem hlt2)) (by have := hnl _ _ HDA.out; omega) HDA.out
          have HE : Aside0 (ps.take (i2 + 1) = ps.take i2 ++ [ps[i2]]) := ⟨List.take_succ_eq_append_getElem hlt2⟩
          have hri : i2 < ps.reverse.length := by rw [List.length_reverse]; exact hlt2
          have HER : Aside0 (ps.reverse.take (i2 + 1) = ps.reverse.take i2 ++ [ps[ps.length - 1 - i2]]) := ⟨by
            rw [List.take_succ_eq_append_getElem hri, List.getElem_reverse]⟩
          have HNB := Aside0.mk (hnl _ _ HDB.out)
          simp only [Int.toNat_natCast] at x0 x1
          clear hcr hCr hnl hri
          generalize ps[i2] = d at *
          go_wp2_with fail
          refine hput.mono ?_
          rintro e w7 ⟨rfl, hF, ns', H', hd'⟩
          rw [← HE.out] at hd'
          have HA7 := Aside0.mk H'.bound
          have HDA7 := Aside0.mk hd'
          have HOA7 : Aside0 (∀ k, ((OA k ∨ wr.heap.size ≤ k) ∧ k < w7.heap.size) → we.heap.size ≤ k ∧ k < w7.heap.size) := ⟨fun k hk => ⟨hk.1.elim (fun h => (HOA.out k h).1) (fun h => Nat.le_trans HBW.out.size h), hk.2⟩⟩
          have HB7 := Aside0.mk (HB.out.keep (w1 := w7) (fun k hk hlt => hF.block k hlt (fun ha => HDJ.out k ha hk)))
          have HDJ7 : Aside0 (∀ k, ((OA k ∨ wr.heap.size ≤ k) ∧ k < w7.heap.size) → ¬ OB k) := ⟨fun k hk hb => hk.1.elim (fun h => HDJ.out k h hb) (fun h => by have := (HOB.out k hb).2; omega)⟩
          have HBW7 := Aside0.mk (below_fr HBW.out hF (fun k hk => (HOA.out k hk).1))
          clear hput hF H' hd' x0 x1 HA HDA HB HE HDJ HOA
          have hk0 : (0 : Int) ≤ ((ps.length - 1 - i2 : Nat) : Int) := by omega
          have hk1 : ((ps.length - 1 - i2 : Nat) : Int) < (ps.length : Int) := by omega
          have hkl : ps.length - 1 - i2 < ps.length := by omega
          obtain ⟨ad, Ar, cr, eA, x0, x1, hcr, hCr⟩ := at_T25 (Kd.C_below HCe.out HBW7.out) ((ps.length - 1 - i2 : Nat) : Int) hk0 hk1
          cases eA
          rw [rdD_at ps _ hkl] at x0 x1 hcr hCr
          have hput := PutAny_T w2.heap.size ps[ps.length - 1 - i2] Ar cr nb (ps.reverse.take i2) _ w7 HB7.out hCr hcr (HLENS.out _ (List.getElem_mem hkl)) (by have := HNB.out; omega) HDB.out
          have hki : (ps.length : Int) - 1 - (i2 : Int) = ((ps.length - 1 - i2 : Nat) : Int) := by omega
          simp only [Int.toNat_natCast] at x0 x1
          clear hcr hCr
          generalize ps[ps.length - 1 - i2] = d2 at *
          go_wp2_with fail
          refine hput.mono ?_
          rintro e w8 ⟨rfl, hF, ns', H', hd'⟩
          rw [← HER.out] at hd'
          have HB8 := Aside0.mk H'.bound
          have HDB8 := Aside0.mk hd'
          have HOB8 : Aside0 (∀ k, ((OB k ∨ w7.heap.size ≤ k) ∧ k < w8.heap.size) → we.heap.size ≤ k ∧ k < w8.heap.size) := ⟨fun k hk => ⟨hk.1.elim (fun h => (HOB.out k h).1) (fun h => Nat.le_trans HBW7.out.size h), hk.2⟩⟩
          have HA8 := Aside0.mk (HA7.out.keep (w1 := w8) (fun k hk hlt => hF.block k hlt (fun hb => HDJ7.out k hk hb)))
          have HOA8 : Aside0 (∀ k, ((OA k ∨ wr.heap.size ≤ k) ∧ k < w7.heap.size) → we.heap.size ≤ k ∧ k < w8.heap.size) := ⟨fun k hk => ⟨(HOA7.out k hk).1, Nat.lt_of_lt_of_le hk.2 hF.size⟩⟩
          have HDJ8 : Aside0 (∀ k, ((OA k ∨ wr.heap.size ≤ k) ∧ k < w7.heap.size) → ¬ ((OB k ∨ w7.heap.size ≤ k) ∧ k < w8.heap.size)) := ⟨fun k hk hb => hb.1.elim (fun h => HDJ7.out k hk h) (fun h => by have := hk.2; omega)⟩
          have HBW8 := Aside0.mk (below_fr HBW7.out hF (fun k hk => (HOB.out k hk).1))
          clear hput hF H' hd' x0 x1 hki hk0 hk1 hkl HB7 HDB HA7 HOA7 HDJ7 HOB HNB HBW HBW7
          go_wp2
          go_roundg (ps.length - (i2 + 1))
          case measure => omega
          case rel => exact ⟨i2 + 1, _, _, _, _, by go_num, by omega, by omega, HA8, HB8, HDA7, HDB8, HOA8, HOB8, HDJ8, HBW8⟩
        · have hie2 : i2 = ps.length := by omega
          have hltz2 : ¬ (i2 : Int) < (ps.length : Int) := by omega
          have HDA' : Aside0 (na.map (·.d) = putsV ps) := ⟨by rw [HDA.out, hie2, List.take_length]⟩
          have HDB' : Aside0 (nb.map (·.d) = putsV ps) := ⟨by rw [HDB.out, hie2, List.take_of_length_le (by rw [List.length_reverse]; exact Nat.le_refl _), putsV_reverse HPW.out]⟩
          clear HDA HDB hie2
          go_wp2_with fail
          have b5 : Below wr.heap.size wr (wr.alloc (.cells #[.slice none 0 0] 50)) := below_alloc (Below.refl _ _) _
          have z5 : (wr.alloc (.cells #[.slice none 0 0] 50)).heap.size = wr.heap.size + 1 := by simp
          have k12 := heap_alloc_new wr (.cells #[.slice none 0 0] 50)
          have HA5 := Aside0.mk (HA.out.below b5)
          have HB5 := Aside0.mk (HB.out.below b5)
          have HBW5 := Aside0.mk (below_then HBW.out HBW.out.size b5)
          have HWR := Aside0.mk HBW.out.size
          have HZ5 := Aside0.mk z5
          have HK12 := Aside0.mk k12
          clear b5 z5 k12 HA HB HBW
          generalize (wr.alloc (.cells #[.slice none 0 0] 50)) = w5 at *
          refine (All_T we.heap.size w5).mono ?_
          rintro e w6 ⟨rfl, hw6⟩
          have b6 : Below w5.heap.size w5 w6 := by rw [hw6]; exact below_alloc (Below.refl _ _) _
          have kg : w6.heap[w5.heap.size]? = some (.cells #[.pointer (some ⟨we.heap.size, 0, none⟩)] 66 (0, 0)) := by rw [hw6]; exact heap_alloc_new w5 _
          have HZ6 : Aside0 (w6.heap.size = w5.heap.size + 1) := ⟨by rw [hw6]; simp⟩
          have HA6 := Aside0.mk (HA5.out.below b6)
          have HB6 := Aside0.mk (HB5.out.below b6)
          have HBW6 := Aside0.mk (below_then HBW5.out HBW5.out.size b6)
          have HK6 := Aside0.mk (blk_below HK12.out b6)
          have HKG := Aside0.mk kg
          clear b6 kg hw6 HA5 HB5 HBW5 HK12
          have hlenOf : ∀ m : List (Sk.Nd S25), m.map (·.d) = putsV ps → ∀ n ∈ m, n.d.f1.length ≤ 4398046511103 := fun m hm n hn => by
            have : n.d ∈ m.map (·.d) := List.mem_map_of_mem hn
            rw [hm] at this
            exact HLENS.out _ (putsV_mem this).1
          have HLO := Aside0.mk hlenOf
          have hgiv := given_GX we.heap.size w5.heap.size [] na OA (fun k => k = wr.heap.size ∨ k = w6.heap.size ∨ k = w6.heap.size + 1 ∨ w6.heap.size + 4 ≤ k) _ _ w6 HA6.out.m HA6.out.pos (hlenOf na HDA'.out) HKG.out (by have := HZ5.out; have := HZ6.out; omega)
            (fun k hk => by have := (HOA.out k hk).2; have := HZ5.out; have := HZ6.out; omega) (fun k hk => by have := HZ5.out; have := HZ6.out; omega)
          rw [HDA'.out] at hgiv
          have HGIV := Aside0.mk hgiv
          have HOA6 : Aside0 (∀ k, OA k → k < w6.heap.size) := ⟨fun k hk => by have := (HOA.out k hk).2; have := HZ5.out; have := HZ6.out; omega⟩
          have HOB6 : Aside0 (∀ k, OB k → k < w6.heap.size) := ⟨fun k hk => by have := (HOB.out k hk).2; have := HZ5.out; have := HZ6.out; omega⟩
          clear hgiv hlenOf
          go_wp2
          refine wp_rangeH (gf := 56) (lb := #[.pointer (some ⟨w5.heap.size, 0, none⟩)]) rfl (enters_of Try.func56 (by kernel_rfl) rfl)
            HGIV.out (.inr (.inl rfl)) (.inr (.inr (.inl rfl))) (fun _ => rfl)
            (fun pre V => ∃ av, V.heap[wr.heap.size]? = some (.cells #[av] 50 (0, 0)) ∧ Kd.R k25 25 V (w6.heap.size + 4) (fun _ => True) av (pre.map (·.1)) ∧ SkL V OA we.heap.size na ∧ SkL V OB w2.heap.size nb ∧ Below we.heap.size we V)
            (fun cd pre V => False) ?hI (fun cd s A B row h _ _ => h) ⟨.slice none 0 0, HK6.out, Kd.R_nil _ _ _ _ _, HA6.out, HB6.out, HBW6.out⟩ ?round ?done (fun cd pre V _ h _ => h.elim)
          case hI =>
            rintro s A B row ⟨av, h1, h2, h3, h4, h5⟩ hg hr
            exact ⟨av, ownFrom_blk () A B row h1 hg hr, ownFrom_R25 () A B row h2 hg hr, ownFrom_SkL HOA6.out () A B row h3 hg hr, ownFrom_SkL HOB6.out () A B row h4 hg hr, ownFrom_below (Nat.le_refl _) HBW6.out.size () A B row h5 hg hr⟩
          case round =>
            rintro l3 pre ⟨d, v⟩ V K ⟨av, h1, h2, h3, h4, h5⟩ ⟨hpre, _, hR, hsz⟩ hV hK
            have hR : Kd.R k27 27 V (w6.heap.size + 4) (fun _ => True) v d.f1 := hR
            have hpre : pre.map (·.1) ++ [d] <+: putsV ps := hpre
            obtain ⟨Av, cv, hv⟩ := Kd.R_slice hR
            subst hv
            have hn400 : pre.length < 400 := by
              have h1 := hpre.length_le
              have h2 := putsV_len ps
              simp at h1; omega
            have HR := Aside0.mk hR
            have H1 := Aside0.mk h1
            have H2 := Aside0.mk h2
            have H3 := Aside0.mk h3
            have H4 := Aside0.mk h4
            have H5 := Aside0.mk h5
            have HSZ := Aside0.mk hsz
            have HKK := Aside0.mk hK
            clear hR h1 h2 h3 h4 h5 hpre hK hsz
            gi_wp2
            refine HKK.out _ _ (fun U => U.heap[V.heap.size]? = some (.cells #[.bool d.f0, .slice Av d.f1.length cv] 25 (0, 0)) ∧ Kd.R k27 27 U (w6.heap.size + 4) (fun _ => True) (.slice Av d.f1.length cv) d.f1 ∧ U.heap[wr.heap.size]? = some (.cells #[av] 50 (0, 0)) ∧ Kd.R k25 25 U (w6.heap.size + 4) (fun _ => True) av (pre.map (·.1)) ∧ SkL U OA we.heap.size na ∧ SkL U OB w2.heap.size nb ∧ Below we.heap.size we U ∧ w6.heap.size + 4 ≤ U.heap.size)
              ?zo ⟨heap_alloc_new V _, Kd.R_below HR.out (below_alloc (Below.refl _ _) _), blk_alloc H1.out _, Kd.R_below H2.out (below_alloc (Below.refl _ _) _), H3.out.below (below_alloc (Below.refl _ _) _), H4.out.below (below_alloc (Below.refl _ _) _), below_alloc H5.out _, Nat.le_trans HSZ.out (below_alloc (Below.refl V.heap.size V) _).size⟩ ((KeepsOthers.alloc _ _).from _) (Fr.of_below (below_alloc (Below.refl _ _) _)) ?_
            case zo =>
              rintro s A B row ⟨q1, q2, q3, q4, q5, q6, q7, q8⟩ hg hr
              exact ⟨ownFrom_blk () A B row q1 hg hr, ownFrom_R () A B row q2 hg hr, ownFrom_blk () A B row q3 hg hr, ownFrom_R25 () A B row q4 hg hr, ownFrom_SkL HOA6.out () A B row q5 hg hr, ownFrom_SkL HOB6.out () A B row q6 hg hr, ownFrom_below (Nat.le_refl _) HBW6.out.size () A B row q7 hg hr, Nat.le_trans q8 hg.size⟩
            rintro U ⟨q1, q2, q3, q4, q5, q6, q7, q8⟩ hUs
            obtain ⟨Aa, ca, hav⟩ := Kd.R_slice q4
            rw [List.length_map] at hav
            subst hav
            have c12 := (blk_cell q3 0).trans rfl
            have f12 := blk_frozen q3 0
            have b0_ := (blk_cell q1 0).trans rfl
            have b1_ := (blk_cell q1 1).trans rfl
            have Q2 := Aside0.mk q2
            have Q3 := Aside0.mk q3
            have Q4 := Aside0.mk q4
            have Q5 := Aside0.mk q5
            have Q6 := Aside0.mk q6
            have Q7 := Aside0.mk q7
            have Q8 := Aside0.mk q8
            clear q1 q2 q3 q4 q5 q6 q7 q8
            have hp := gather_M Q4.out Q2.out
            have hl32 : ((pre.map (·.1)).length + 1) * 32 ≤ 140737488355328 := by rw [List.length_map]; omega
            have hfin := fun (v1 : Value) (w1 : World) (hR1 : Kd.R k25 25 w1 (w6.heap.size + 4) (fun _ => True) v1 (pre.map (·.1) ++ [d])) (hg1 : U.grownBy w1 (Value.slice Aa pre.length ca).ownBlock) => gather_fin Q3.out Q4.out Q5.out Q6.out Q7.out hR1 hg1 (fun k hk => (HOA.out k hk).2) (fun k hk => (HOB.out k hk).2) (by have := HZ5.out; have := HZ6.out; omega) HWR.out
            have hblk := fun (w1 : World) (hg1 : U.grownBy w1 (Value.slice Aa pre.length ca).ownBlock) => gather_blk Q3.out Q4.out hg1 (by have := HZ5.out; have := HZ6.out; omega)
            have HBLK := Aside0.mk hblk
            clear hblk
            have HP := Aside0.mk hp
            have HL32 := Aside0.mk hl32
            have HFIN := Aside0.mk hfin
            clear hp hl32 hfin
            refine wpIn_block ?_
            refine wpIn_region_plain (by kernel_rfl) (by rintro ⟨_, _, h⟩; exact h) ?_
            go_wp2_with (at_builtin; refine show_goal ?_)
            refine Aside0.mk ?_
            refine Kd.R_append k25 (w0 := U) (w6.heap.size + 4) ?_ (.tmp 94) (.tmp 96) 50 25 (.agg #[(.bool false), (.slice none 0 0)]) 32 ?_ ?_ ?_ ?_ ?_ ?_ (.slice Aa pre.length ca) (pre.map (·.1)) d [.bool d.f0, .slice Av d.f1.length cv] (fun _ => True) (fun k => some k ≠ (Value.slice Aa pre.length ca).ownBlock) ?_ ?_ ?_ ?_ ?_ ?_ ?_ ?_ ?_ ?_
            · rfl
            · rfl
            · exact Try.underlying50
            · exact info25
            · rfl
            · exact Nat.zero_lt_succ 1
            · exact Nat.zero_lt_succ 31
            · rfl
            · rfl
            · exact HP.out
            · exact fun _ h => ⟨trivial, h⟩
            · exact fun _ _ => trivial
            · exact Q4.out
            · exact Below.refl _ _
            · exact Q8.out
            · exact HL32.out
            intro v1 w1 hR1 hb1 hg1 hat1
            obtain ⟨A1_, c1_, hv1⟩ := Kd.R_slice hR1
            rw [show (pre.map (·.1) ++ [d]).length = pre.length + 1 by simp] at hv1
            subst hv1
            have hin := HBLK.out w1 hg1
            have s0 := (blk_cell hin 0).trans rfl
            have s1 := blk_frozen hin 0
            have HRR := Aside0.mk hR1
            have HGG := Aside0.mk hg1
            clear hR1 hb1 hg1 hat1 hin c12 f12 b0_ b1_
            go_wp2
            have hz := HFIN.out _ w1 HRR.out HGG.out
            obtain ⟨k1, k2, av', k3, k4, k5, k6, k7⟩ := hz
            exact ⟨k1, k2, av', k3, by rw [List.map_append]; exact k4, k5, k6, k7⟩
          case done =>
            rintro xs V hxs ⟨av, h1, h2, h3, h4, h5⟩ hD
            have hxs : xs.map (·.1) = putsV ps := hxs
            rw [hxs] at h2
            have b8 : Below V.heap.size V (V.alloc (.cells #[.int .i64 0] 3)) := below_alloc (Below.refl _ _) _
            have z8 : (V.alloc (.cells #[.int .i64 0] 3)).heap.size = V.heap.size + 1 := by simp
            have HL6V : Aside0 (w6.heap.size < V.heap.size) := ⟨(Array.getElem?_eq_some_iff.1 hD).1⟩
            have HWV : Aside0 (wr.heap.size < V.heap.size) := ⟨(Array.getElem?_eq_some_iff.1 h1).1⟩
            have HN8 := Aside0.mk (heap_alloc_new V (.cells #[.int .i64 0] 3))
            have HAL8 := Aside0.mk (blk_below h1 b8)
            have HR8 := Aside0.mk (Kd.R_below h2 b8)
            have HA8 := Aside0.mk (h3.below b8)
            have HB8 := Aside0.mk (h4.below b8)
            have HW8 := Aside0.mk (below_then h5 h5.size b8)
            have HD8 := Aside0.mk ((b8.block _ (Array.getElem?_eq_some_iff.1 hD).1).trans hD)
            have HZ8 := Aside0.mk z8
            clear h1 h2 h3 h4 h5 hD b8 z8 hxs
            go_wp2_with fail
            generalize (V.alloc (.cells #[.int .i64 0] 3)) = w8 at *
            refine (All_T w2.heap.size w8).mono ?_
            rintro e w9 ⟨rfl, hw9⟩
            have b9 : Below w8.heap.size w8 w9 := by rw [hw9]; exact below_alloc (Below.refl _ _) _
            have kg : w9.heap[w8.heap.size]? = some (.cells #[.pointer (some ⟨w2.heap.size, 0, none⟩)] 66 (0, 0)) := by rw [hw9]; exact heap_alloc_new w8 _
            have HZ9 : Aside0 (w9.heap.size = w8.heap.size + 1) := ⟨by rw [hw9]; simp⟩
            have HN9 := Aside0.mk (blk_below HN8.out b9)
            have HAL9 := Aside0.mk (blk_below HAL8.out b9)
            have HR9 := Aside0.mk (Kd.R_below HR8.out b9)
            have HA9 := Aside0.mk (HA8.out.below b9)
            have HB9 := Aside0.mk (HB8.out.below b9)
            have HW9 := Aside0.mk (below_then HW8.out HW8.out.size b9)
            have HD9 := Aside0.mk ((b9.block _ (Array.getElem?_eq_some_iff.1 HD8.out).1).trans HD8.out)
            have HKG9 := Aside0.mk kg
            clear b9 kg hw9 HN8 HAL8 HR8 HA8 HB8 HW8 HD8
            have hgiv := given_G w2.heap.size w8.heap.size [] nb OB (fun k => k = V.heap.size ∨ k = w9.heap.size ∨ k = w9.heap.size + 1) _ _ w9 HB9.out.m HB9.out.pos (HLO.out nb HDB'.out) HKG9.out (by have := HZ8.out; have := HZ9.out; omega)
              (fun k hk => by have := (HOB.out k hk).2; have := HWV.out; have := HZ8.out; have := HZ9.out; omega) (fun k hk => by have := HZ8.out; have := HZ9.out; omega)
            rw [HDB'.out] at hgiv
            have HGIV9 := Aside0.mk hgiv
            have HL69 : Aside0 (w6.heap.size < w9.heap.size) := ⟨(Array.getElem?_eq_some_iff.1 HD9.out).1⟩
            have HOA9 : Aside0 (∀ k, OA k → k < w9.heap.size) := ⟨fun k hk => by have := (HOA.out k hk).2; have := HWV.out; have := HZ8.out; have := HZ9.out; omega⟩
            have HOB9 : Aside0 (∀ k, OB k → k < w9.heap.size) := ⟨fun k hk => by have := (HOB.out k hk).2; have := HWV.out; have := HZ8.out; have := HZ9.out; omega⟩
            clear hgiv
            obtain ⟨Aa, ca, hav⟩ := Kd.R_slice HR9.out
            subst hav
            generalize hds : putsV ps = ds at *
            have HDS := Aside0.mk hds
            clear hds
            go_wp2
            refine wp_rangeH (gf := 56) (lb := #[.pointer (some ⟨w8.heap.size, 0, none⟩)]) rfl (enters_of Try.func56 (by kernel_rfl) rfl)
              HGIV9.out (.inr (.inl rfl)) (.inr (.inr rfl)) (fun _ => rfl)
              (fun pre U => U.heap[V.heap.size]? = some (.cells #[.int .i64 pre.length] 3 (0, 0)) ∧ U.heap[wr.heap.size]? = some (.cells #[.slice Aa ds.length ca] 50 (0, 0)) ∧ Kd.R k25 25 U (w6.heap.size + 4) (fun _ => True) (.slice Aa ds.length ca) ds ∧ SkL U OA we.heap.size na ∧ SkL U OB w2.heap.size nb ∧ Below we.heap.size we U ∧ U.heap[w6.heap.size]? = some (.deferred (some [])))
              (fun cd pre U => False) ?hI2 (fun cd s A B row h _ _ => h) ⟨HN9.out, HAL9.out, HR9.out, HA9.out, HB9.out, HW9.out, HD9.out⟩ ?round2 ?done2 (fun cd pre U _ h _ => h.elim)
            case hI2 =>
              rintro s A B row ⟨h1, h2, h3, h4, h5, h6, h7⟩ hg hr
              exact ⟨ownFrom_blk () A B row h1 hg hr, ownFrom_blk () A B row h2 hg hr, ownFrom_R25 () A B row h3 hg hr, ownFrom_SkL HOA9.out () A B row h4 hg hr, ownFrom_SkL HOB9.out () A B row h5 hg hr, ownFrom_below (Nat.le_refl _) HW9.out.size () A B row h6 hg hr, (hg.block _ (Array.getElem?_eq_some_iff.1 h7).1 (fun e => by have := (hr _ e.symm).1; have := HL69.out; omega)).trans h7⟩
            case round2 =>
              rintro l4 pre ⟨d, v⟩ V2 K ⟨h1, h2, h3, h4, h5, h6, h7⟩ ⟨hpre, hR, _⟩ hV2 hK
              have hR : Kd.R k27 27 V2 w9.heap.size (fun _ => True) v d.f1 := hR
              have hpre : pre.map (·.1) ++ [d] <+: ds := hpre
              obtain ⟨Av, cv, hv⟩ := Kd.R_slice hR
              subst hv
              have hlt3 : pre.length < ds.length := by
                have h1 := hpre.length_le
                simp at h1; omega
              have hge : ds[pre.length] = d := by
                have h1 := (List.prefix_iff_getElem.1 hpre).2 pre.length (by simp)
                simpa using h1.symm
              have hn400 : ds.length ≤ 400 := by
                have h2 := putsV_len ps
                rw [HDS.out] at h2; omega
              have HGE := Aside0.mk hge
              have HR := Aside0.mk hR
              have H1 := Aside0.mk h1
              have H2 := Aside0.mk h2
              have H3 := Aside0.mk h3
              have H4 := Aside0.mk h4
              have H5 := Aside0.mk h5
              have H6 := Aside0.mk h6
              have H7 := Aside0.mk h7
              have HKK := Aside0.mk hK
              clear hR h1 h2 h3 h4 h5 h6 h7 hpre hK hge
              gi_wp2
              refine HKK.out _ _ (fun U => U.heap[V2.heap.size]? = some (.cells #[.bool d.f0, .slice Av d.f1.length cv] 25 (0, 0)) ∧ Kd.R k27 27 U w9.heap.size (fun _ => True) (.slice Av d.f1.length cv) d.f1 ∧ U.heap[V.heap.size]? = some (.cells #[.int .i64 pre.length] 3 (0, 0)) ∧ U.heap[wr.heap.size]? = some (.cells #[.slice Aa ds.length ca] 50 (0, 0)) ∧ Kd.R k25 25 U (w6.heap.size + 4) (fun _ => True) (.slice Aa ds.length ca) ds ∧ SkL U OA we.heap.size na ∧ SkL U OB w2.heap.size nb ∧ Below we.heap.size we U ∧ U.heap[w6.heap.size]? = some (.deferred (some [])))
                ?zo2 ⟨heap_alloc_new V2 _, Kd.R_below HR.out (below_alloc (Below.refl _ _) _), blk_alloc H1.out _, blk_alloc H2.out _, Kd.R_below H3.out (below_alloc (Below.refl _ _) _), H4.out.below (below_alloc (Below.refl _ _) _), H5.out.below (below_alloc (Below.refl _ _) _), below_alloc H6.out _, ((below_alloc (Below.refl V2.heap.size V2) _).block _ (Array.getElem?_eq_some_iff.1 H7.out).1).trans H7.out⟩ ((KeepsOthers.alloc _ _).from _) (Fr.of_below (below_alloc (Below.refl _ _) _)) ?_
              case zo2 =>
                rintro s A B row ⟨q1, q2, q3, q4, q5, q6, q7, q8, q9⟩ hg hr
                exact ⟨ownFrom_blk () A B row q1 hg hr, ownFrom_R () A B row q2 hg hr, ownFrom_blk () A B row q3 hg hr, ownFrom_blk () A B row q4 hg hr, ownFrom_R25 () A B row q5 hg hr, ownFrom_SkL HOA9.out () A B row q6 hg hr, ownFrom_SkL HOB9.out () A B row q7 hg hr, ownFrom_below (Nat.le_refl _) HW9.out.size () A B row q8 hg hr, (hg.block _ (Array.getElem?_eq_some_iff.1 q9).1 (fun e => by have := (hr _ e.symm).1; have := HL69.out; omega)).trans q9⟩
              rintro U ⟨q1, q2, q3, q4, q5, q6, q7, q8, q9⟩ hUs
              have hz0 : (0 : Int) ≤ (pre.length : Int) := by omega
              have hz1 : (pre.length : Int) < (ds.length : Int) := by omega
              have hz2 : ¬ (pre.length : Int) ≥ (ds.length : Int) := by omega
              have hz3 : decide ((pre.length : Int) ≥ (ds.length : Int)) = false := decide_eq_false hz2
              have hz4 : ¬ ds.length ≤ pre.length := by omega
              obtain ⟨aa, Ar, cr, eA, x0, x1, hcr, hCr⟩ := at_T25 (Kd.R_reads' q5).2.2 (pre.length : Int) hz0 hz1
              cases eA
              rw [rdD_at ds _ hlt3, HGE.out] at x0 x1 hcr hCr
              simp only [Int.toNat_natCast] at x0 x1
              have hq2 := Kd.R_reads' q2
              have hsame := fun (s : SomeW U) => same_T d.f0 Av cv d.f1 d.f0 Ar cr d.f1 s.W (Kd.C_below hq2.2.2 s.h) hq2.2.1 (Kd.C_below hCr s.h) hcr
              rw [sameV_self, beq_self_eq_true, Bool.and_self] at hsame
              have L0 : ∀ s : SomeW U, s.W.cell? ⟨V2.heap.size, 0, none⟩ = some (.bool d.f0) := fun s => cell_some ((blk_cell q1 0).trans rfl) s
              have L1 : ∀ s : SomeW U, s.W.cell? ⟨V2.heap.size, 1, none⟩ = some (.slice Av d.f1.length cv) := fun s => cell_some ((blk_cell q1 1).trans rfl) s
              have L2 : ∀ s : SomeW U, s.W.cell? ⟨V.heap.size, 0, none⟩ = some (.int .i64 pre.length) := fun s => cell_some ((blk_cell q3 0).trans rfl) s
              have L3 : ∀ s : SomeW U, s.W.cell? ⟨wr.heap.size, 0, none⟩ = some (.slice (some aa) ds.length ca) := fun s => cell_some ((blk_cell q4 0).trans rfl) s
              have L4 : ∀ s : SomeW U, s.W.cell? (aa.add (pre.length * 2)) = some (.bool d.f0) := fun s => cell_some x0 s
              have L5 : ∀ s : SomeW U, s.W.cell? ⟨(aa.add (pre.length * 2)).block, (aa.add (pre.length * 2)).off + 1, none⟩ = some (.slice Ar d.f1.length cr) := fun s => cell_some x1 s
              have Q3 := Aside0.mk q3
              have Q4 := Aside0.mk q4
              have Q5 := Aside0.mk q5
              have Q6 := Aside0.mk q6
              have Q7 := Aside0.mk q7
              have Q8 := Aside0.mk q8
              have Q9 := Aside0.mk q9
              have HN4 := Aside0.mk hn400
              clear q1 q2 q3 q4 q5 q6 q7 q8 q9 x0 x1 hcr hCr hq2 hz0
              gi_wp2
              refine wpIn_region_quiet_some mixed_T (by kernel_rfl) (by kernel_rfl) (by rintro ⟨_, _, h⟩; exact h) ?_
              repeat (go_big_quiet_step (first | (go_at_call 18; refine Calls.below_some (hsame _))))
              refine wpQuiet_nil ?_
              intro U3 hw'
              obtain ⟨p_, hp_⟩ := hw'
              have hbU : Below U.heap.size U U3 := by rw [hp_]; exact p_.h
              clear hp_ p_ L0 L1 L2 L3 L4 L5 hsame hz1 hz2 hz3 hz4
              have m0 := (blk_cell (blk_below Q3.out hbU) 0).trans rfl
              have mf := blk_frozen (blk_below Q3.out hbU) 0
              have HBU := Aside0.mk hbU
              clear hbU
              gi_wp2
              have hnn : ((pre ++ [(d, Value.slice Av d.f1.length cv)]).length : Int) = (pre.length : Int) + 1 := by simp
              refine ⟨keepsFrom_set (keepsFrom_below HBU.out) _ _ _, (Fr.of_below HBU.out).set (.inl (.inl rfl)) _ _, ?_, (Sk.heap_set_ne _ _ _ _ _ (by have := HWV.out; omega)).trans (blk_below Q4.out HBU.out), Kd.R_set (Kd.R_below Q5.out HBU.out) (blk_below Q3.out HBU.out) (k25_E 3 (by decide) (by decide)) _ _,
                (Q6.out.below HBU.out).keep (fun k hk hkl => Sk.heap_set_ne _ _ _ _ _ (by have := (HOA.out k hk).2; have := HWV.out; omega)), (Q7.out.below HBU.out).keep (fun k hk hkl => Sk.heap_set_ne _ _ _ _ _ (by have := (HOB.out k hk).2; have := HWV.out; omega)),
                below_set (below_then Q8.out Q8.out.size HBU.out) (by have := HWR.out; have := HWV.out; omega), (Sk.heap_set_ne _ _ _ _ _ (by have := HL6V.out; omega)).trans ((HBU.out.block _ (Array.getElem?_eq_some_iff.1 Q9.out).1).trans Q9.out)⟩
              rw [hnn]; exact blk_set (blk_below Q3.out HBU.out) 0 _
            case done2 =>
              rintro xs2 U hxs2 ⟨h1, h2, h3, h4, h5, h6, h7⟩ hD2
              have hxl : xs2.length = ds.length := by
                have h := congrArg List.length (show xs2.map (·.1) = ds from hxs2)
                rwa [List.length_map] at h
              have hla0 : na.length = ds.length := by
                have h := congrArg List.length HDA'.out
                rwa [List.length_map] at h
              have hlb0 : nb.length = ds.length := by
                have h := congrArg List.length HDB'.out
                rwa [List.length_map] at h
              rw [hxl] at h1
              have n0 := (blk_cell h1 0).trans rfl
              have a0_ := (blk_cell h2 0).trans rfl
              have hba := Bytes_T we.heap.size na OA U h4
              rw [HDA'.out] at hba
              have hbb := Bytes_T w2.heap.size nb OB U h5
              rw [HDB'.out] at hbb
              have hla := Len_T we.heap.size na OA U h4
              rw [hla0] at hla
              have hlb := Len_T w2.heap.size nb OB U h5
              rw [hlb0] at hlb
              have hk4 := blk_below HKe.out h6
              have r0 := (blk_cell hk4 0).trans rfl
              have rf := blk_frozen hk4 0
              have HK4 := Aside0.mk hk4
              have HD2' := Aside0.mk hD2
              have HD1' := Aside0.mk h7
              have HBF := Aside0.mk (below_then HBe.out HBe.out.size h6)
              generalize wrap64 (bytesI ds) = bz at *
              generalize hdl : ds.length = dl at *
              clear h1 h2 h3 h4 h5 h6 h7 hD2 hxl hla0 hlb0 hk4 hdl hxs2
              go_wp2_with (first | (go_at_call 30; first | (refine hba.mono ?_; rintro e w' ⟨rfl, rfl⟩) | (refine hbb.mono ?_; rintro e w' ⟨rfl, rfl⟩)) | (go_at_call 29; first | (refine hla.mono ?_; rintro e w' ⟨rfl, rfl⟩) | (refine hlb.mono ?_; rintro e w' ⟨rfl, rfl⟩)))
              have hW : W.heap.size < we.heap.size := (Array.getElem?_eq_some_iff.1 HKe.out).1
              have h69 : W.heap.size < w6.heap.size ∧ w6.heap.size < w9.heap.size := by have := HWR.out; have := HZ5.out; have := HZ6.out; have := HL69.out; omega
              refine ⟨by simp, .inl ⟨_, _, rfl, run_takeDeferred ((Sk.heap_set_ne _ _ _ _ _ (by omega)).trans HD2'.out), ?_⟩⟩
              refine ⟨by simp, .inl ⟨_, _, rfl, run_takeDeferred ((World.putObj_heap_other (by omega)).trans ((Sk.heap_set_ne _ _ _ _ _ (by omega)).trans HD1'.out)), ?_⟩⟩
              have hcf := (World.putObj_heap_other (o := .deferred none) (r := w6.heap.size) (show W.heap.size ≠ w6.heap.size by omega)).trans ((World.putObj_heap_other (o := .deferred none) (r := w9.heap.size) (show W.heap.size ≠ w9.heap.size by omega)).trans (blk_set HK4.out 0 (.bool true)))
              refine ⟨.bool true, ?_, rfl, below_put (below_put (below_set HBF.out (Nat.le_refl _)) (by omega) _) (by omega) _⟩
              simp [results, Try.f12, go_sem, (blk_cell hcf 0).trans rfl]
end Go.Proofs.Ytnfliommpdjlkaa.Pr
