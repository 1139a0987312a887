/- the reference's list: place, Put -/
import Derived.Test.YtnfliommpdjlkaaSkY
import Derived.Test.YtnfliommpdjlkaaPrf27
import Derived.Deep.RegionWith
import Derived.RangeFuncNested
import Derived.Sort.LoopGhostIn
import Derived.Stop.RegionWithIn
import Derived.RegionIn
import Derived.RangeFuncBound
import Derived.RangeFuncCalls
import Derived.RangeFuncLeaves
import Derived.OwnWalkIn
import Derived.TacticsInMore
import Derived.LoopNIn
import Derived.LoopIn
import Derived.Shelf.AbstractIn
namespace Go.Proofs.Ytnfliommpdjlkaa.Pr
open Go.RowKit Go.Proofs.Ytnfliommpdjlkaa.Brid Go.Proofs.YtnfliommpdjlkaaW.PrintWords Go.Proofs.YtnfliommpdjlkaaW.PrintLast Go.Proofs.YtnfliommpdjlkaaW.PrintMore
set_option linter.unusedVariables false
set_option linter.unusedSimpArgs false
set_option maxHeartbeats 4000000
set_option maxRecDepth 100000
attribute [local go_sem] Oper.semAt_some
/-- an element as it stood in w0, wherever it is told -/
def oldK {α : Type} (d : Kd α) (w0 : World) : Kd α where
  sz := d.sz
  E := []
  K := fun _ x cs => d.K w0 x cs
  M := fun _ _ _ x cs => d.K w0 x cs
  K_len := fun h => d.K_len h
  K_one := fun h => d.K_one h
  K_below := fun _ h => h
  K_of_M := fun h => h
  M_mono := fun _ h => h
  M_bound := fun h => h
  M_move := fun _ h => h
  M_lower := fun _ h => h
/-- read now -/
theorem oldK_C {α : Type} {d : Kd α} {w0 w : World} {A : Option Addr} {n : Nat} {xs : List α} (h : (oldK d w0).C w A n xs) (hb : Below w0.heap.size w0 w) : d.C w A n xs :=
  ⟨h.1, h.2.1, fun hn => by
    obtain ⟨ad, e, hr⟩ := h.2.2 hn
    exact ⟨ad, e, fun j p hj => by
      obtain ⟨c, hc, hk, hcell⟩ := hr j p hj
      exact ⟨c, hc, d.K_below hb hk, hcell⟩⟩⟩
theorem k25_sz : k25.sz = 2 := rfl
def hitV (k : S27) (ds : List S25) : Bool := match postOf keyT k ds with | [] => false | e :: _ => !lessT k (keyT e)
theorem pre_len (k : S27) (ds : List S25) : (preOf keyT k ds).length ≤ ds.length := by
  have h := congrArg List.length (pre_post keyT k ds); rw [List.length_append] at h; omega
theorem post_cut (k : S27) (ds : List S25) : ds.drop (preOf keyT k ds).length = postOf keyT k ds := by
  have h := pre_post keyT k ds
  generalize preOf keyT k ds = u at *
  generalize postOf keyT k ds = v at *
  subst h
  simp
theorem pre_cut (k : S27) (ds : List S25) : ds.take (preOf keyT k ds).length = preOf keyT k ds := by
  have h := pre_post keyT k ds
  generalize preOf keyT k ds = u at *
  generalize postOf keyT k ds = v at *
  subst h
  simp
theorem hit_end {k : S27} {ds : List S25} (h : (preOf keyT k ds).length = ds.length) : hitV k ds = false := by
  have h2 := post_cut k ds
  rw [h, List.drop_length] at h2
  unfold hitV
  rw [← h2]
theorem hit_at {k : S27} {ds : List S25} (h : (preOf keyT k ds).length < ds.length) : lessT (keyT ds[(preOf keyT k ds).length]) k = false ∧ hitV k ds = !lessT k (keyT ds[(preOf keyT k ds).length]) := by
  have h2 := post_cut k ds
  rw [List.drop_eq_getElem_cons h] at h2
  refine ⟨?_, ?_⟩
  · cases hc : lessT (keyT ds[(preOf keyT k ds).length]) k with
    | false => rfl
    | true =>
      have h4 : (postOf keyT k ds).head? = some ds[(preOf keyT k ds).length] := by rw [← h2]; rfl
      have h5 := List.head?_dropWhile_not (fun n => lessT (keyT n) k) ds
      unfold postOf at h4
      rw [h4] at h5
      simp [hc] at h5
  · unfold hitV
    rw [← h2]
theorem putV_at (ds : List S25) (d : S25) : ds.take (preOf keyT (keyT d) ds).length ++ [d] ++ ds.drop (if hitV (keyT d) ds = true then (preOf keyT (keyT d) ds).length + 1 else (preOf keyT (keyT d) ds).length) = putV ds d := by
  have h2 := post_cut (keyT d) ds
  rw [pre_cut]
  unfold putV hitV
  cases hp : postOf keyT (keyT d) ds with
  | nil =>
    rw [hp] at h2
    simp [h2]
  | cons e r =>
    rw [hp] at h2
    have h3 : ds.drop ((preOf keyT (keyT d) ds).length + 1) = r := by rw [← List.drop_drop, h2]; rfl
    cases hl : lessT (keyT d) (keyT e) with
    | true => simp [h2, hl]
    | false => simp [h3, hl]
theorem place_T (q : Nat) (k : S27) (ds : List S25) (A : Option Addr) (c : Nat) (w : World) (hb : w.heap[q]? = some (.cells #[.slice A ds.length c] 54 (0, 0))) (hC : Kd.C k25 w A ds.length ds) (hn : ds.length ≤ 4611686018427387904)
    (hf : ∀ d ∈ ds, d.f1.length ≠ 0) (hs : ∀ d ∈ ds, (keyT d).f2.size ≤ 9223372036854775807) (hk : k.f2.size ≤ 9223372036854775807) :
    Calls Try.prog 50 #[.pointer (some ⟨q, 0, none⟩), .agg (cellsT k)] w fun e w' => e = .returned (.tuple #[.int .i64 (preOf keyT k ds).length, .bool (hitV k ds)]) ∧ Below w.heap.size w w' := by
  have b1 := below_alloc (Below.refl w.heap.size w) (.cells (cellsT k) 27)
  have kb := heap_alloc_new w (.cells (cellsT k) 27)
  have hpl := pre_len k ds
  have hat := fun h => hit_at (k := k) (ds := ds) h
  have hen := fun h => hit_end (k := k) (ds := ds) h
  have hpr : ∀ (i : Nat) (hi : i < (preOf keyT k ds).length) (hj : i < ds.length), lessT (keyT ds[i]) k = true := fun i hi hj => by
    have e1 := pre_post keyT k ds
    have h2 : (preOf keyT k ds)[i] = ds[i] := by
      have : (preOf keyT k ds ++ postOf keyT k ds)[i]? = ds[i]? := by rw [e1]
      rw [List.getElem?_append_left hi, List.getElem?_eq_getElem hi, List.getElem?_eq_getElem hj] at this
      exact Option.some.inj this
    have := preOf_less keyT k ds _ (List.getElem_mem hi)
    rwa [h2] at this
  generalize (preOf keyT k ds).length = m at *
  generalize hitV k ds = hv at *
  have HPL := Aside0.mk hpl
  have HAT := Aside0.mk hat
  have HEN := Aside0.mk hen
  have HPR := Aside0.mk hpr
  clear hpl hat hen hpr
  have HB := Aside0.mk hb
  have HC := Aside0.mk hC
  have HF := Aside0.mk hf
  have HS := Aside0.mk hs
  have HK := Aside0.mk hk
  have HB1 := Aside0.mk b1
  have HKB := Aside0.mk kb
  clear hb hC hf hs hk b1 kb
  go_enter Try.func50, Try.ntmps50
  go_wp2
  go_loopg [6] ds.length (fun kx a wr => ∃ i : Nat, a = .int .i64 i ∧ i ≤ m ∧ m - i ≤ kx ∧ Aside0 (Below w.heap.size w wr) ∧ Aside0 (wr.heap[w.heap.size]? = some (.cells (cellsT k) 27 (0, 0))))
  case atStart => exact ⟨0, rfl, Nat.zero_le _, by have := HPL.out; omega, HB1, HKB⟩
  case round =>
    obtain ⟨i, rfl, hi, hkx, B, KB⟩ := hrel
    have hq := blk_below HB.out B.out
    have LQ : ∀ s : SomeW wr, s.W.cell? ⟨q, 0, none⟩ = some (.slice A ds.length c) := fun s => cell_some ((blk_cell hq 0).trans rfl) s
    have LK0 : ∀ s : SomeW wr, s.W.cell? ⟨w.heap.size, 0, none⟩ = some (.bool k.f0) := fun s => cell_some ((blk_cell KB.out 0).trans rfl) s
    have LK1 : ∀ s : SomeW wr, s.W.cell? ⟨w.heap.size, 1, none⟩ = some (.int .i64 k.f1) := fun s => cell_some ((blk_cell KB.out 1).trans rfl) s
    have LK2 : ∀ s : SomeW wr, s.W.cell? ⟨w.heap.size, 2, none⟩ = some (.string k.f2) := fun s => cell_some ((blk_cell KB.out 2).trans rfl) s
    clear hq
    by_cases hlt : i < m
    · have hlt2 : i < ds.length := by have := HPL.out; omega
      have hltz : (i : Int) < (ds.length : Int) := by omega
      have hiz : (0 : Int) ≤ (i : Int) := by omega
      have hltb : decide ((i : Int) < (ds.length : Int)) = true := decide_eq_true hltz
      have hless := HPR.out i hlt hlt2
      obtain ⟨ad, Ar, cr, eA, x0, x1, hcr, hCr⟩ := at_T25 (Kd.C_below HC.out B.out) (i : Int) hiz hltz
      subst eA
      rw [rdD_at ds i hlt2] at x0 x1 hcr hCr
      simp only [Int.toNat_natCast] at x0 x1
      have hne : ds[i].f1.length ≠ 0 := HF.out _ (List.getElem_mem hlt2)
      have hpz : (0 : Int) < (ds[i].f1.length : Int) := by omega
      obtain ⟨ak, eK, y0, y1, y2⟩ := at_T27 (show Kd.C k27 wr Ar ds[i].f1.length ds[i].f1 from hCr) (0 : Int) (by omega) hpz
      subst eK
      have hsz := HS.out _ (List.getElem_mem hlt2)
      generalize ds[i] = d at *
      have X1 : ∀ s : SomeW wr, s.W.cell? ⟨(ad.add (i * 2)).block, (ad.add (i * 2)).off + 1, none⟩ = some (.slice (some ak) d.f1.length cr) := fun s => cell_some x1 s
      have Y0 : ∀ s : SomeW wr, s.W.cell? ak = some (.bool (keyT d).f0) := fun s => cell_some y0 s
      have Y1 : ∀ s : SomeW wr, s.W.cell? ⟨ak.block, ak.off + 1, none⟩ = some (.int .i64 (keyT d).f1) := fun s => cell_some y1 s
      have Y2 : ∀ s : SomeW wr, s.W.cell? ⟨ak.block, ak.off + 2, none⟩ = some (.string (keyT d).f2) := fun s => cell_some y2 s
      have hah := fun V1 => ahead_T (keyT d) k V1 hsz
      rw [hless] at hah
      clear hless x0 x1 y0 y1 y2 hcr hCr hne
      go_wp2
      refine wp_region_quiet_some mixed_T (by kernel_rfl) ?_
      repeat (go_big_quiet_step (first | (go_at_call 36; refine Calls.below_some (hah _))))
      refine wpQuiet_nil ?_
      intro U3 hw'
      obtain ⟨p_, hp_⟩ := hw'
      have hbU : Below wr.heap.size wr U3 := by rw [hp_]; exact p_.h
      clear hp_ p_ LQ LK0 LK1 LK2 X1 Y0 Y1 Y2 hah hltb
      have HBU := Aside0.mk hbU
      clear hbU
      go_wp2
      go_roundg (m - (i + 1))
      case measure => omega
      case rel => exact ⟨i + 1, by go_num, by omega, by omega, ⟨below_then B.out B.out.size HBU.out⟩, ⟨blk_below KB.out HBU.out⟩⟩
    · obtain rfl : m = i := by omega
      by_cases hend : m < ds.length
      · obtain ⟨hless, hhit⟩ := HAT.out hend
        have HHIT := Aside0.mk hhit
        clear hhit
        have hCw := Kd.C_below HC.out B.out
        have HF' := HF.out _ (List.getElem_mem hend)
        have HS' := HS.out _ (List.getElem_mem hend)
        have hltz : (m : Int) < (ds.length : Int) := by omega
        have hiz : (0 : Int) ≤ (m : Int) := by omega
        have hltb : decide ((m : Int) < (ds.length : Int)) = true := decide_eq_true hltz
        obtain ⟨ad, Ar, cr, eA, x0, x1, hcr, hCr⟩ := at_T25 hCw (m : Int) hiz hltz
        subst eA
        rw [rdD_at ds m hend] at x0 x1 hcr hCr
        simp only [Int.toNat_natCast] at x0 x1
        have hpz : (0 : Int) < (ds[m].f1.length : Int) := by omega
        obtain ⟨ak, eK, y0, y1, y2⟩ := at_T27 (show Kd.C k27 wr Ar ds[m].f1.length ds[m].f1 from hCr) (0 : Int) (by omega) hpz
        subst eK
        generalize ds[m] = d at *
        have X1 : ∀ s : SomeW wr, s.W.cell? ⟨(ad.add (m * 2)).block, (ad.add (m * 2)).off + 1, none⟩ = some (.slice (some ak) d.f1.length cr) := fun s => cell_some x1 s
        have Y0 : ∀ s : SomeW wr, s.W.cell? ak = some (.bool (keyT d).f0) := fun s => cell_some y0 s
        have Y1 : ∀ s : SomeW wr, s.W.cell? ⟨ak.block, ak.off + 1, none⟩ = some (.int .i64 (keyT d).f1) := fun s => cell_some y1 s
        have Y2 : ∀ s : SomeW wr, s.W.cell? ⟨ak.block, ak.off + 2, none⟩ = some (.string (keyT d).f2) := fun s => cell_some y2 s
        have hah := fun V1 => ahead_T (keyT d) k V1 HS'
        have hah2 := fun V1 => ahead_T k (keyT d) V1 HK.out
        rw [hless] at hah
        have HX1 := Aside0.mk x1
        have HY0 := Aside0.mk y0
        have HY1 := Aside0.mk y1
        have HY2 := Aside0.mk y2
        clear hless x0 x1 y0 y1 y2 hcr hCr HF' hCw hkx hi hlt
        go_wp2
        refine wp_region_quiet_some mixed_T (by kernel_rfl) ?_
        repeat (go_big_quiet_step (first | (go_at_call 36; refine Calls.below_some (hah _))))
        refine wpQuiet_nil ?_
        intro U3 hw'
        obtain ⟨p_, hp_⟩ := hw'
        have hbU : Below wr.heap.size wr U3 := by rw [hp_]; exact p_.h
        clear hp_ p_ LQ LK0 LK1 LK2 X1 Y0 Y1 Y2 hah
        have HBU := Aside0.mk hbU
        have hq := blk_below HB.out (below_then B.out B.out.size hbU)
        have hkb := blk_below KB.out hbU
        have LQ : ∀ s : SomeW U3, s.W.cell? ⟨q, 0, none⟩ = some (.slice (some ad) ds.length c) := fun s => cell_some ((blk_cell hq 0).trans rfl) s
        have LK0 : ∀ s : SomeW U3, s.W.cell? ⟨w.heap.size, 0, none⟩ = some (.bool k.f0) := fun s => cell_some ((blk_cell hkb 0).trans rfl) s
        have LK1 : ∀ s : SomeW U3, s.W.cell? ⟨w.heap.size, 1, none⟩ = some (.int .i64 k.f1) := fun s => cell_some ((blk_cell hkb 1).trans rfl) s
        have LK2 : ∀ s : SomeW U3, s.W.cell? ⟨w.heap.size, 2, none⟩ = some (.string k.f2) := fun s => cell_some ((blk_cell hkb 2).trans rfl) s
        have X1 : ∀ s : SomeW U3, s.W.cell? ⟨(ad.add (m * 2)).block, (ad.add (m * 2)).off + 1, none⟩ = some (.slice (some ak) d.f1.length cr) := fun s => cell_some ((Below.cell hbU (World.block_lt_of_cell? _ _ HX1.out)).trans HX1.out) s
        have Y0 : ∀ s : SomeW U3, s.W.cell? ak = some (.bool (keyT d).f0) := fun s => cell_some ((Below.cell hbU (World.block_lt_of_cell? _ _ HY0.out)).trans HY0.out) s
        have Y1 : ∀ s : SomeW U3, s.W.cell? ⟨ak.block, ak.off + 1, none⟩ = some (.int .i64 (keyT d).f1) := fun s => cell_some ((Below.cell hbU (World.block_lt_of_cell? _ _ HY1.out)).trans HY1.out) s
        have Y2 : ∀ s : SomeW U3, s.W.cell? ⟨ak.block, ak.off + 2, none⟩ = some (.string (keyT d).f2) := fun s => cell_some ((Below.cell hbU (World.block_lt_of_cell? _ _ HY2.out)).trans HY2.out) s
        clear hbU hq hkb
        go_wp2
        refine wp_region_quiet_some mixed_T (by kernel_rfl) ?_
        repeat (go_big_quiet_step (first | (go_at_call 36; refine Calls.below_some (hah2 _))))
        refine wpQuiet_nil ?_
        intro U4 hw'
        obtain ⟨p_, hp_⟩ := hw'
        have hbU : Below U3.heap.size U3 U4 := by rw [hp_]; exact p_.h
        clear hp_ p_ LQ LK0 LK1 LK2 X1 Y0 Y1 Y2 hah2
        have HBV := Aside0.mk (below_then B.out B.out.size (below_then HBU.out HBU.out.size hbU))
        clear hbU
        go_wp2
        go_ret2
        exact ⟨by rw [HHIT.out]; rfl, HBV.out⟩
      · have hee : m = ds.length := by have := HPL.out; omega
        have HHIT := Aside0.mk (HEN.out hee)
        have HEE := Aside0.mk hee
        have hnb : decide ((m : Int) < (ds.length : Int)) = false := decide_eq_false (by omega)
        have hnz : ¬ (m : Int) < (ds.length : Int) := by omega
        have hnn : ¬ m < ds.length := by omega
        clear hkx hi hlt hend hee
        go_wp2
        refine wp_region_quiet_some mixed_T (by kernel_rfl) ?_
        repeat (go_big_quiet_step (fail))
        refine wpQuiet_nil ?_
        intro U3 hw'
        obtain ⟨p_, hp_⟩ := hw'
        have hbU : Below wr.heap.size wr U3 := by rw [hp_]; exact p_.h
        clear hp_ p_ LQ LK0 LK1 LK2
        have HBU := Aside0.mk hbU
        have hq := blk_below HB.out (below_then B.out B.out.size hbU)
        have LQ : ∀ s : SomeW U3, s.W.cell? ⟨q, 0, none⟩ = some (.slice A ds.length c) := fun s => cell_some ((blk_cell hq 0).trans rfl) s
        clear hbU hq
        go_wp2
        refine wp_region_quiet_some mixed_T (by kernel_rfl) ?_
        repeat (go_big_quiet_step (fail))
        refine wpQuiet_nil ?_
        intro U4 hw'
        obtain ⟨p_, hp_⟩ := hw'
        have hbU : Below U3.heap.size U3 U4 := by rw [hp_]; exact p_.h
        clear hp_ p_ LQ
        have HBV := Aside0.mk (below_then B.out B.out.size (below_then HBU.out HBU.out.size hbU))
        clear hbU
        go_wp2
        go_ret2
        exact ⟨by rw [HHIT.out]; rfl, HBV.out⟩
theorem ne_of_at {W : World} {v v1 : Value} {g : Nat} (hat : v1.ownBlock = v.ownBlock ∨ ∃ b, v1.ownBlock = some b ∧ W.heap.size ≤ b) (h0 : v.ownBlock = none) (hg : g < W.heap.size) : some g ≠ v1.ownBlock := by
  rcases hat with h | ⟨b, h, hb⟩
  · rw [h, h0]; simp
  · rw [h]; intro e; injection e with e; omega
theorem old_lt {α : Type} {d : Kd α} {e : Nat} {w : World} {base : Nat} {ok : Nat → Prop} {v : Value} {xs : List α} (h : d.R e w base ok v xs) : ∀ k, some k = v.ownBlock → base ≤ k ∧ k < w.heap.size := fun k hk => by
  obtain ⟨_, inner, ho, _⟩ := h
  exact ⟨own_base ho k hk.symm, own_lt ho k hk.symm⟩
theorem ne_of_lt {α : Type} {d : Kd α} {e : Nat} {w : World} {base : Nat} {ok : Nat → Prop} {v : Value} {xs : List α} (h : d.R e w base ok v xs) : some w.heap.size ≠ v.ownBlock := fun hk => by have := (old_lt h _ hk).2; omega
theorem old_ne {α : Type} {d : Kd α} {e : Nat} {w : World} {base : Nat} {ok : Nat → Prop} {v : Value} {xs : List α} (h : d.R e w base ok v xs) {k : Nat} (hk : k < base) : some k ≠ v.ownBlock := fun he => by have := (old_lt h _ he).1; omega
theorem cell_alloc1 {w : World} {a : Addr} {v : Value} {o : Obj} (h : w.cell? a = some v) : (w.alloc o).cell? a = some v := (World.cell?_alloc_lt _ _ _ (World.block_lt_of_cell? _ _ h)).trans h
theorem k25_mkK (W : World) (d : S25) {A : Option Addr} {c : Nat} (hc : d.f1.length ≤ c) (h : Kd.C k27 W A d.f1.length d.f1) : k25.K W d [.bool d.f0, .slice A d.f1.length c] :=
  ⟨[.bool d.f0], [.slice A d.f1.length c], rfl, rfl, ⟨A, c, rfl, hc, h⟩⟩
theorem old_one {w we : World} {g : Nat} {d : S25} {A : Option Addr} {c : Nat} (h : w.heap[g]? = some (.cells #[.bool d.f0, .slice A d.f1.length c] 25 (0, 0))) (hK : k25.K we d [.bool d.f0, .slice A d.f1.length c]) : Kd.C (oldK k25 we) w (some ⟨g, 0, none⟩) 1 [d] := by
  refine ⟨rfl, by omega, fun _ => ⟨⟨g, 0, none⟩, rfl, fun j p hj => ?_⟩⟩
  cases j with
  | zero =>
    simp only [List.getElem?_cons_zero, Option.some.injEq] at hj
    subst hj
    refine ⟨_, rfl, hK, fun i u hi => ?_⟩
    have h1 : w.cell? ⟨g, i, none⟩ = some u := (blk_cell h i).trans (by simpa using hi)
    have e2 : (⟨g, 0, none⟩ : Addr).add (0 * (oldK k25 we).sz + i) = ⟨g, i, none⟩ := by
      rw [Nat.zero_mul, Nat.zero_add]
      unfold Addr.add
      by_cases h0 : i = 0
      · subst h0; rfl
      · simp [h0]
    rw [e2]; exact h1
  | succ j => simp at hj
theorem fin_put {w wS w7 we : World} {p : Nat} {v7 : Value} {u : Value} {xs ys : List S25} (hb : Below w.heap.size w wS) (hp : wS.heap[p]? = some (.cells #[u] 54 (0, 0))) (hb7 : Below wS.heap.size wS w7) (hR : Kd.R (oldK k25 we) 25 w7 wS.heap.size (fun _ => True) v7 xs) (e : xs = ys) :
    Fr (fun k => k = p) w (w7.setCell ⟨p, 0, none⟩ v7) ∧ ∃ v', (w7.setCell ⟨p, 0, none⟩ v7).heap[p]? = some (.cells #[v'] 54 (0, 0)) ∧ Kd.R (oldK k25 we) 25 (w7.setCell ⟨p, 0, none⟩ v7) w.heap.size (fun _ => True) v' ys := by
  subst e
  have hbb := below_then hb hb.size hb7
  have hp7 := blk_below hp hb7
  refine ⟨(Fr.of_below hbb : Fr (fun k => k = p) w w7).set (.inl rfl) 0 v7, v7, blk_set hp7 0 v7, Kd.R_lower (Kd.R_set hR hp7 (fun q hq => ?_) 0 v7) hb.size⟩
  simp [oldK] at hq
  omega
theorem PutR_T (p : Nat) (d : S25) (A0 : Option Addr) (c0 : Nat) (ds : List S25) (A : Option Addr) (c : Nat) (we w : World) (hp : w.heap[p]? = some (.cells #[.slice A ds.length c] 54 (0, 0))) (hO : Kd.C (oldK k25 we) w A ds.length ds) (hc : ds.length ≤ c) (hb : Below we.heap.size we w)
    (hC : Kd.C k27 we A0 d.f1.length d.f1) (hc0 : d.f1.length ≤ c0) (hn : ds.length ≤ 1099511627776) (hf : ∀ e ∈ ds, e.f1.length ≠ 0) (hs : ∀ e ∈ ds, (keyT e).f2.size ≤ 9223372036854775807) (hk : (keyT d).f2.size ≤ 9223372036854775807) (hl : 0 < d.f1.length) :
    Calls Try.prog 28 #[.pointer (some ⟨p, 0, none⟩), .agg #[.bool d.f0, .slice A0 d.f1.length c0]] w fun e w' => e = .returned (.bool true) ∧ Fr (fun k => k = p) w w' ∧ ∃ v', w'.heap[p]? = some (.cells #[v'] 54 (0, 0)) ∧ Kd.R (oldK k25 we) 25 w' w.heap.size (fun _ => True) v' (putV ds d) := by
  have b1 := below_alloc (Below.refl w.heap.size w) (.cells #[.bool d.f0, .slice A0 d.f1.length c0] 25)
  have kb := heap_alloc_new w (.cells #[.bool d.f0, .slice A0 d.f1.length c0] 25)
  have hz1 : (w.alloc (.cells #[.bool d.f0, .slice A0 d.f1.length c0] 25)).heap.size = w.heap.size + 1 := by simp
  have hC1 := Kd.C_below hC (below_then hb hb.size b1)
  have hlz : (0 : Int) < (d.f1.length : Int) := by omega
  obtain ⟨ad, eA, p0, p1, p2⟩ := at_T27 hC1 (0 : Int) (by omega) hlz
  subst eA
  have p0 := (show _ = some (Value.bool (keyT d).f0) by simpa [Addr.add, keyT] using p0)
  have p1 := (show _ = some (Value.int .i64 (keyT d).f1) by simpa [Addr.add, keyT] using p1)
  have p2 := (show _ = some (Value.string (keyT d).f2) by simpa [Addr.add, keyT] using p2)
  have hpl := place_T p (keyT d) ds A c _ (blk_below hp b1) (oldK_C (Kd.C_below hO b1) (below_then hb hb.size b1)) (by omega) hf hs hk
  have hKd := Aside0.mk (k25_mkK we d hc0 hC)
  have hpu := Aside0.mk (putV_at ds d)
  have hpl1 := pre_len (keyT d) ds
  have HB1 := Aside0.mk b1
  have HKB := Aside0.mk kb
  have HP := Aside0.mk hp
  have HO := Aside0.mk hO
  have HZ1 := Aside0.mk hz1
  have hne : ¬ (d.f1.length : Int) = 0 := by omega
  have hneb : ((d.f1.length : Int) == 0) = false := beq_eq_false_iff_ne.2 hne
  clear b1 kb hp hO hb hC hf hs hk hC1 hz1
  go_enter Try.func28, Try.ntmps28
  go_wp2_with fail
  refine hpl.mono ?_
  rintro e wS ⟨rfl, hbS⟩
  have hbS0 := hbS
  have hbS := below_then HB1.out HB1.out.size hbS
  have HPS := Aside0.mk (blk_below HP.out hbS)
  have hkS := blk_below HKB.out hbS0
  have q0 := (blk_cell HPS.out 0).trans rfl
  have q1 := (blk_cell hkS 0).trans rfl
  have q2 := (blk_cell hkS 1).trans rfl
  have hpS : p < wS.heap.size := (Array.getElem?_eq_some_iff.1 HPS.out).1
  have hdS : w.heap.size < wS.heap.size := (Array.getElem?_eq_some_iff.1 hkS).1
  have HTK : ∀ w3, Below wS.heap.size wS w3 → Kd.C (oldK k25 we) w3 A ds.length ds := fun w3 hb3 => Kd.C_below HO.out (below_then hbS hbS.size hb3)
  generalize hm : (preOf keyT (keyT d) ds).length = m at *
  have hTake : ∀ w3, Below wS.heap.size wS w3 → Kd.C (oldK k25 we) w3 A m (ds.take m) := fun w3 hb3 => by
    have := Kd.C_take (HTK w3 hb3) hpl1
    rwa [List.length_take, Nat.min_eq_left hpl1] at this
  obtain ⟨jb, hjb⟩ : ∃ jb : Nat, jb = if hitV (keyT d) ds = true then m + 1 else m := ⟨_, rfl⟩
  rw [← hjb] at hpu
  have hjl : jb ≤ ds.length := by
    rw [hjb]
    split
    · rename_i h
      have : m ≠ ds.length := fun e => by rw [hit_end (hm.trans e)] at h; cases h
      omega
    · exact hpl1
  have hDrop : ∀ w3, Below wS.heap.size wS w3 → Kd.C (oldK k25 we) w3 (if c = jb then A else A.map (·.add (jb * 2))) (ds.length - jb) (ds.drop jb) := fun w3 hb3 => by
    have := Kd.C_drop (HTK w3 hb3) hjl hc
    rwa [List.length_drop] at this
  have HbS := Aside0.mk hbS
  have HTake := Aside0.mk hTake
  have HDrop := Aside0.mk hDrop
  have HQ1 := Aside0.mk q1
  clear hkS HTK hTake hDrop hm hbS hbS0
  have hz0 : (0 : Int) ≤ (m : Int) := by omega
  have hz1 : (m : Int) ≤ (ds.length : Int) := by omega
  have hz2 : (m : Int) ≤ (c : Int) := by omega
  have hz3 : (0 : Int) ≤ (jb : Int) := by omega
  have hz4 : (jb : Int) ≤ (ds.length : Int) := by omega
  have hz5 : (ds.length : Int) ≤ (c : Int) := by omega
  have hit : Aside0 (hitV (keyT d) ds = true → (m : Int) + 1 = (jb : Int)) := ⟨fun h => by rw [hjb, if_pos h]; omega⟩
  have hno : Aside0 (hitV (keyT d) ds = false → (m : Int) = (jb : Int)) := ⟨fun h => by rw [hjb, if_neg (by simp [h])]⟩
  clear hjb
  generalize hitV (keyT d) ds = hv at *
  cases hv with
  | true =>
    have hje := hit.out rfl
    have HJE := Aside0.mk hje
    clear hit hno hje
    go_wp2
    rw [HJE.out]
    have hTake := HTake.out
    have hDrop := HDrop.out
    refine start_ (n := 21) (S := fun w' => w'.cell? ⟨p, 0, none⟩ = some (.slice A ds.length c) ∧ w'.cell? ⟨w.heap.size, 0, none⟩ = some (.bool d.f0) ∧ w'.cell? ⟨w.heap.size, 1, none⟩ = some (.slice (some ad) d.f1.length c0) ∧ Aside0 (Below wS.heap.size wS w')) (ds := [20]) #[false, false, false, false, false, false, false, false, false, false, false, false, false, false, false, false, false, false, false, false, false] (by kernel_rfl) rfl rfl ⟨(by simpa using q0), (by simpa using q1), (by simpa using q2), ⟨below_drew1 (Below.refl _ _)⟩⟩ (fun hHeld => ?_)
    refine pure_ (i := 0) (N := some 25) (v := ?_) (a' := ?_) #[true, false, false, false, false, false, false, false, false, false, false, false, false, false, false, false, false, false, false, false, false] rfl rfl (by kernel_rfl) (fun _ _ _ h => h) (Or.inl ⟨by rfl, ?_⟩) ?_ ?_
    rotate_left
    · intro w'
      go_simp
      with_reducible rfl
    rotate_left
    · simp only [Act.put, List.setIfInBounds_toArray, List.set_cons_zero, List.set_cons_succ, i64_w, i32_w]
      rfl
    refine pure_ (i := 1) (N := some 26) (v := ?_) (a' := ?_) #[true, true, false, false, false, false, false, false, false, false, false, false, false, false, false, false, false, false, false, false, false] rfl rfl (by kernel_rfl) (fun _ _ _ h => h) (Or.inl ⟨by rfl, ?_⟩) ?_ ?_
    rotate_left
    · intro w'
      go_simp
      with_reducible rfl
    rotate_left
    · simp only [Act.put, List.setIfInBounds_toArray, List.set_cons_zero, List.set_cons_succ, i64_w, i32_w]
      rfl
    refine pure_ (i := 2) (N := some 27) (v := ?_) (a' := ?_) #[true, true, true, false, false, false, false, false, false, false, false, false, false, false, false, false, false, false, false, false, false] rfl rfl (by kernel_rfl) (fun _ _ _ h => h) (Or.inl ⟨by rfl, ?_⟩) ?_ ?_
    rotate_left
    · intro w'
      go_simp
      with_reducible rfl
    rotate_left
    · simp only [Act.put, List.setIfInBounds_toArray, List.set_cons_zero, List.set_cons_succ, i64_w, i32_w]
      rfl
    refine pure_ (i := 3) (N := some 28) (v := ?_) (a' := ?_) #[true, true, true, true, false, false, false, false, false, false, false, false, false, false, false, false, false, false, false, false, false] rfl rfl (by kernel_rfl) (fun _ _ _ h => h) (Or.inl ⟨by rfl, ?_⟩) ?_ ?_
    rotate_left
    · intro w'
      go_simp
      with_reducible rfl
    rotate_left
    · simp only [Act.put, List.setIfInBounds_toArray, List.set_cons_zero, List.set_cons_succ, i64_w, i32_w]
      rfl
    refine pure_ (i := 5) (N := some 30) (v := ?_) (a' := ?_) #[true, true, true, true, false, true, false, false, false, false, false, false, false, false, false, false, false, false, false, false, false] rfl rfl (by kernel_rfl) (fun _ _ _ h => h) (Or.inl ⟨by rfl, ?_⟩) ?_ ?_
    rotate_left
    · intro w'
      go_simp
      with_reducible rfl
    rotate_left
    · simp only [Act.put, List.setIfInBounds_toArray, List.set_cons_zero, List.set_cons_succ, i64_w, i32_w]
      rfl
    refine pure_ (i := 11) (N := some 36) (v := ?_) (a' := ?_) #[true, true, true, true, false, true, false, false, false, false, false, true, false, false, false, false, false, false, false, false, false] rfl rfl (by kernel_rfl) (fun _ _ _ h => h) (Or.inl ⟨by rfl, ?_⟩) ?_ ?_
    rotate_left
    · intro w'
      go_simp
      with_reducible rfl
    rotate_left
    · simp only [Act.put, List.setIfInBounds_toArray, List.set_cons_zero, List.set_cons_succ, i64_w, i32_w]
      rfl
    refine pure_ (i := 12) (N := some 37) (v := ?_) (a' := ?_) #[true, true, true, true, false, true, false, false, false, false, false, true, true, false, false, false, false, false, false, false, false] rfl rfl (by kernel_rfl) (fun _ _ _ h => h) (Or.inl ⟨by rfl, ?_⟩) ?_ ?_
    rotate_left
    · intro w'
      go_simp
      with_reducible rfl
    rotate_left
    · simp only [Act.put, List.setIfInBounds_toArray, List.set_cons_zero, List.set_cons_succ, i64_w, i32_w]
      rfl
    refine pure_ (i := 13) (N := some 38) (v := ?_) (a' := ?_) #[true, true, true, true, false, true, false, false, false, false, false, true, true, true, false, false, false, false, false, false, false] rfl rfl (by kernel_rfl) (fun _ _ _ h => h) (Or.inl ⟨by rfl, ?_⟩) ?_ ?_
    rotate_left
    · intro w'
      go_simp
      with_reducible rfl
    rotate_left
    · simp only [Act.put, List.setIfInBounds_toArray, List.set_cons_zero, List.set_cons_succ, i64_w, i32_w]
      rfl
    refine pure_ (i := 15) (N := some 40) (v := ?_) (a' := ?_) #[true, true, true, true, false, true, false, false, false, false, false, true, true, true, false, true, false, false, false, false, false] rfl rfl (by kernel_rfl) (fun _ _ _ h => h) (Or.inl ⟨by rfl, ?_⟩) ?_ ?_
    rotate_left
    · intro w'
      go_simp
      with_reducible rfl
    rotate_left
    · simp only [Act.put, List.setIfInBounds_toArray, List.set_cons_zero, List.set_cons_succ, i64_w, i32_w]
      rfl
    refine take_ (i := 4) (N := some 29) (v := ?_) (a' := ?_) #[true, true, true, true, true, true, false, false, false, false, false, true, true, true, false, true, false, false, false, false, false] rfl rfl (by kernel_rfl) (fun _ _ _ h => h) (Or.inl ⟨by rfl, ?_⟩) hHeld ?_ ?_
    rotate_left
    · rintro w' ⟨s0, s1, s2, s3⟩
      go_simp
      with_reducible rfl
    rotate_left
    · simp only [Act.put, List.setIfInBounds_toArray, List.set_cons_zero, List.set_cons_succ, i64_w, i32_w]
      rfl
    refine pure_ (i := 6) (N := some 31) (v := ?_) (a' := ?_) #[true, true, true, true, true, true, true, false, false, false, false, true, true, true, false, true, false, false, false, false, false] rfl rfl (by kernel_rfl) (fun _ _ _ h => h) (Or.inl ⟨by rfl, ?_⟩) ?_ ?_
    rotate_left
    · intro w'
      go_simp
      with_reducible rfl
    rotate_left
    · simp only [Act.put, List.setIfInBounds_toArray, List.set_cons_zero, List.set_cons_succ, i64_w, i32_w]
      rfl
    refine take_ (i := 8) (N := some 33) (v := ?_) (a' := ?_) #[true, true, true, true, true, true, true, false, true, false, false, true, true, true, false, true, false, false, false, false, false] rfl rfl (by kernel_rfl) (fun _ _ _ h => h) (Or.inl ⟨by rfl, ?_⟩) hHeld ?_ ?_
    rotate_left
    · rintro w' ⟨s0, s1, s2, s3⟩
      go_simp
      with_reducible rfl
    rotate_left
    · simp only [Act.put, List.setIfInBounds_toArray, List.set_cons_zero, List.set_cons_succ, i64_w, i32_w]
      rfl
    refine take_ (i := 14) (N := some 39) (v := ?_) (a' := ?_) #[true, true, true, true, true, true, true, false, true, false, false, true, true, true, true, true, false, false, false, false, false] rfl rfl (by kernel_rfl) (fun _ _ _ h => h) (Or.inl ⟨by rfl, ?_⟩) hHeld ?_ ?_
    rotate_left
    · rintro w' ⟨s0, s1, s2, s3⟩
      go_simp
      with_reducible rfl
    rotate_left
    · simp only [Act.put, List.setIfInBounds_toArray, List.set_cons_zero, List.set_cons_succ, i64_w, i32_w]
      rfl
    refine pure_ (i := 16) (N := some 41) (v := ?_) (a' := ?_) #[true, true, true, true, true, true, true, false, true, false, false, true, true, true, true, true, true, false, false, false, false] rfl rfl (by kernel_rfl) (fun _ _ _ h => h) (Or.inl ⟨by rfl, ?_⟩) ?_ ?_
    rotate_left
    · intro w'
      go_simp
      with_reducible rfl
    rotate_left
    · simp only [Act.put, List.setIfInBounds_toArray, List.set_cons_zero, List.set_cons_succ, i64_w, i32_w]
      rfl
    refine join_ (σ := Value × Nat) 5 #[true, true, true, true, true, true, true, true, true, true, false, true, true, true, true, true, true, false, false, false, false] (fun s_ => [(32, s_.1), (34, .slice (some ⟨s_.2, 0, none⟩) 1 1)]) (fun s_ w' => (w'.cell? ⟨p, 0, none⟩ = some (.slice A ds.length c) ∧ w'.cell? ⟨w.heap.size, 0, none⟩ = some (.bool d.f0) ∧ w'.cell? ⟨w.heap.size, 1, none⟩ = some (.slice (some ad) d.f1.length c0) ∧ Aside0 (Below wS.heap.size wS w')) ∧ Aside0 (Kd.R (oldK k25 we) 25 w' wS.heap.size (fun _ => True) s_.1 (ds.take m)) ∧ Aside0 (w'.heap[s_.2]? = some (.cells #[.bool d.f0, .slice (some ad) d.f1.length c0] 25 (0, 0))) ∧ Aside0 (some s_.2 ≠ s_.1.ownBlock)) ?_ ?_
    rotate_left
    · intro hCont
      refine two_ (i := 7) (j := 9) (Ni := some 32) (Nj := some 34) #[true, true, true, true, true, true, true, true, true, false, false, true, true, true, true, true, true, false, false, false, false] #[true, true, true, true, true, true, true, false, true, true, false, true, true, true, true, true, true, false, false, false, false] rfl rfl rfl rfl (by kernel_rfl) (by decide) (by decide) (fun K hK => ?_) (fun K hK => ?_)
      · skip
        refine Kd.R_append_rows_step (oldK k25 we) (w0 := wS) wS.heap.size (by rfl) (.const (.slice none 0 0)) (.tmp 31) 50 25 (.agg #[(.bool false), (.slice none 0 0)]) 32 rfl Try.underlying50 info25 rfl (show 0 < 2 by decide) (by omega) (.slice none 0 0) ([] : List S25) (ds.take m) _ _ _ (fun _ => True) (fun _ => False) rfl rfl ?aO ?aR (fun _ _ h => h) (fun _ h => h.elim) (fun _ _ => trivial) hHeld.2.2.2.out hHeld.2.2.2.out.size ?aL ?_
        (case aO => exact Kd.R_nil _ _ _ _ _)
        (case aR => exact hTake _ hHeld.2.2.2.out)
        (case aL => simp only [List.length_nil]; omega)
        intro v1 w3 ho hb hg hat
        have HS0_ := cell_grown hg hHeld.1 (by simp [Value.ownBlock])
        have HS1_ := cell_grown hg hHeld.2.1 (by simp [Value.ownBlock])
        have HS2_ := cell_grown hg hHeld.2.2.1 (by simp [Value.ownBlock])
        have HO1 := Aside0.mk ho
        clear ho hg hat
        refine hK.out _ _ ⟨HS0_, HS1_, HS2_, ⟨hb⟩⟩ (fun hHeld => ?_)
        clear hK K
        refine norm_ (a' := ?_) ?_ ?_
        rotate_left
        · show Act.put _ (some 32) _ = _
          simp only [Act.put, List.setIfInBounds_toArray, List.set_cons_zero, List.set_cons_succ, i64_w, i32_w]
          rfl
        refine one_ (i := 9) (N := some 34) #[true, true, true, true, true, true, true, true, true, true, false, true, true, true, true, true, true, false, false, false, false] rfl rfl (by kernel_rfl) (by decide) (fun K hK => ?_)
        refine value_ (w1 := ?_) (v := ?_) (by rfl) rfl ?_ ?_
        rotate_left 2
        · go_simp
          constructor
          · rfl
          · rfl
        have HBX1 := Aside0.mk (heap_alloc_new w3 (.cells #[.bool d.f0, .slice (some ad) d.f1.length c0] 25))
        have HNE1 : Aside0 (some w3.heap.size ≠ v1.ownBlock) := ⟨ne_of_lt HO1.out⟩
        have HO2 := Aside0.mk (Kd.R_below HO1.out (below_alloc (Below.refl _ _) (.cells #[.bool d.f0, .slice (some ad) d.f1.length c0] 25)))
        refine hK.out _ _ ⟨(cell_alloc1 hHeld.1), (cell_alloc1 hHeld.2.1), (cell_alloc1 hHeld.2.2.1), ⟨below_alloc hHeld.2.2.2.out _⟩⟩ (fun hHeld => ?_)
        clear hK K
        refine norm_ (a' := ?_) ?_ ?_
        rotate_left
        · show Act.put _ (some 34) _ = _
          simp only [Act.put, List.setIfInBounds_toArray, List.set_cons_zero, List.set_cons_succ, i64_w, i32_w]
          rfl
        exact norm_ (by simp only [putAll, Act.put, List.setIfInBounds_toArray, List.set_cons_zero, List.set_cons_succ]) (hCont (v1, w3.heap.size) _ ⟨hHeld, HO2, HBX1, HNE1⟩)
      · skip
        refine value_ (w1 := ?_) (v := ?_) (by rfl) rfl ?_ ?_
        rotate_left 2
        · go_simp
          constructor
          · rfl
          · rfl
        have HBX := Aside0.mk (heap_alloc_new wS.drew (.cells #[.bool d.f0, .slice (some ad) d.f1.length c0] 25))
        refine hK.out _ _ ⟨(cell_alloc1 hHeld.1), (cell_alloc1 hHeld.2.1), (cell_alloc1 hHeld.2.2.1), ⟨below_alloc hHeld.2.2.2.out _⟩⟩ (fun hHeld => ?_)
        clear hK K
        refine norm_ (a' := ?_) ?_ ?_
        rotate_left
        · show Act.put _ (some 34) _ = _
          simp only [Act.put, List.setIfInBounds_toArray, List.set_cons_zero, List.set_cons_succ, i64_w, i32_w]
          rfl
        refine one_ (i := 7) (N := some 32) #[true, true, true, true, true, true, true, true, true, true, false, true, true, true, true, true, true, false, false, false, false] rfl rfl (by kernel_rfl) (by decide) (fun K hK => ?_)
        refine Kd.R_append_rows_step (oldK k25 we) (w0 := wS) wS.heap.size (by rfl) (.const (.slice none 0 0)) (.tmp 31) 50 25 (.agg #[(.bool false), (.slice none 0 0)]) 32 rfl Try.underlying50 info25 rfl (show 0 < 2 by decide) (by omega) (.slice none 0 0) ([] : List S25) (ds.take m) _ _ _ (fun _ => True) (fun _ => False) rfl rfl ?aO ?aR (fun _ _ h => h) (fun _ h => h.elim) (fun _ _ => trivial) hHeld.2.2.2.out hHeld.2.2.2.out.size ?aL ?_
        (case aO => exact Kd.R_nil _ _ _ _ _)
        (case aR => exact hTake _ hHeld.2.2.2.out)
        (case aL => simp only [List.length_nil]; omega)
        intro v1 w3 ho hb hg hat
        have HS0_ := cell_grown hg hHeld.1 (by simp [Value.ownBlock])
        have HS1_ := cell_grown hg hHeld.2.1 (by simp [Value.ownBlock])
        have HS2_ := cell_grown hg hHeld.2.2.1 (by simp [Value.ownBlock])
        have hbx := HBX.out
        have HBX1 := Aside0.mk ((hg.block _ (Array.getElem?_eq_some_iff.1 hbx).1 (by simp [Value.ownBlock])).trans hbx)
        have HNE1 : Aside0 (some wS.heap.size ≠ v1.ownBlock) := ⟨ne_of_at hat (by simp [Value.ownBlock]) (by simp)⟩
        clear hbx
        have HO1 := Aside0.mk ho
        clear ho hg hat
        refine hK.out _ _ ⟨HS0_, HS1_, HS2_, ⟨hb⟩⟩ (fun hHeld => ?_)
        clear hK K
        refine norm_ (a' := ?_) ?_ ?_
        rotate_left
        · show Act.put _ (some 32) _ = _
          simp only [Act.put, List.setIfInBounds_toArray, List.set_cons_zero, List.set_cons_succ, i64_w, i32_w]
          rfl
        exact norm_ (by simp only [putAll, Act.put, List.setIfInBounds_toArray, List.set_cons_zero, List.set_cons_succ]) (hCont (v1, wS.heap.size) _ ⟨hHeld, HO1, HBX1, HNE1⟩)
    rintro ⟨v1, g⟩ w4 ⟨hHeld, HO, HX, HN⟩
    dsimp only at hHeld HO HX HN
    refine norm_ (a' := ?_) ?_ ?_
    rotate_left
    · simp only [putAll, Act.put, List.setIfInBounds_toArray, List.set_cons_zero, List.set_cons_succ]
      rfl
    refine one_ (i := 10) (N := some 35) #[true, true, true, true, true, true, true, true, true, true, true, true, true, true, true, true, true, false, false, false, false] rfl rfl (by kernel_rfl) (by decide) (fun K hK => ?_)
    refine Kd.R_append_rows_step (oldK k25 we) (w0 := wS) wS.heap.size (by rfl) (.tmp 32) (.tmp 34) 50 25 (.agg #[(.bool false), (.slice none 0 0)]) 32 rfl Try.underlying50 info25 rfl (show 0 < 2 by decide) (by omega) v1 (ds.take m) [d] _ _ _ (fun _ => True) (fun _ => False) rfl rfl ?aO ?aR (fun _ _ h => h) (fun _ h => h.elim) (fun _ _ => trivial) hHeld.2.2.2.out hHeld.2.2.2.out.size ?aL ?_
    (case aO => exact HO.out)
    (case aR => exact old_one HX.out hKd.out)
    (case aL => simp only [List.length_take]; omega)
    intro v5 w5 ho hb hg hat
    have HS0_ := cell_grown hg hHeld.1 (old_ne HO.out hpS)
    have HS1_ := cell_grown hg hHeld.2.1 (old_ne HO.out hdS)
    have HS2_ := cell_grown hg hHeld.2.2.1 (old_ne HO.out hdS)
    have HO5 := Aside0.mk ho
    clear ho hg hat
    refine hK.out _ _ ⟨HS0_, HS1_, HS2_, ⟨hb⟩⟩ (fun hHeld => ?_)
    clear hK K
    refine norm_ (a' := ?_) ?_ ?_
    rotate_left
    · show Act.put _ (some 35) _ = _
      simp only [Act.put, List.setIfInBounds_toArray, List.set_cons_zero, List.set_cons_succ, i64_w, i32_w]
      rfl
    refine one_ (i := 17) (N := some 42) #[true, true, true, true, true, true, true, true, true, true, true, true, true, true, true, true, true, true, false, false, false] rfl rfl (by kernel_rfl) (by decide) (fun K hK => ?_)
    refine Kd.R_append_rows_step (oldK k25 we) (w0 := wS) wS.heap.size (by rfl) (.tmp 35) (.tmp 41) 50 25 (.agg #[(.bool false), (.slice none 0 0)]) 32 rfl Try.underlying50 info25 rfl (show 0 < 2 by decide) (by omega) v5 (ds.take m ++ [d]) (ds.drop jb) _ _ _ (fun _ => True) (fun _ => False) rfl rfl ?aO ?aR (fun _ _ h => h) (fun _ h => h.elim) (fun _ _ => trivial) hHeld.2.2.2.out hHeld.2.2.2.out.size ?aL ?_
    (case aO => exact HO5.out)
    (case aR => exact hDrop _ hHeld.2.2.2.out)
    (case aL => simp only [List.length_append, List.length_take, List.length_singleton]; omega)
    intro v7 w7 ho hb hg hat
    rw [hpu.out] at ho
    obtain ⟨A7, c7, hv7⟩ := Kd.R_slice ho
    subst hv7
    have HS0_ := cell_grown hg hHeld.1 (old_ne HO5.out hpS)
    have HS1_ := cell_grown hg hHeld.2.1 (old_ne HO5.out hdS)
    have HS2_ := cell_grown hg hHeld.2.2.1 (old_ne HO5.out hdS)
    have HO7 := Aside0.mk ho
    clear ho hg hat
    have f7 : w7.frozen? ⟨p, 0, none⟩ = false := blk_frozen (blk_below HPS.out hb) 0
    have HB7 := Aside0.mk hb
    refine hK.out _ _ ⟨HS0_, HS1_, HS2_, ⟨hb⟩⟩ (fun hHeld => ?_)
    clear hK K
    refine norm_ (a' := ?_) ?_ ?_
    rotate_left
    · show Act.put _ (some 42) _ = _
      simp only [Act.put, List.setIfInBounds_toArray, List.set_cons_zero, List.set_cons_succ, i64_w, i32_w]
      rfl
    refine pure_ (i := 18) (N := some 43) (v := ?_) (a' := ?_) #[true, true, true, true, true, true, true, true, true, true, true, true, true, true, true, true, true, true, true, false, false] rfl rfl (by kernel_rfl) (fun _ _ _ h => h) (Or.inl ⟨by rfl, ?_⟩) ?_ ?_
    rotate_left
    · intro w'
      go_simp
      with_reducible rfl
    rotate_left
    · simp only [Act.put, List.setIfInBounds_toArray, List.set_cons_zero, List.set_cons_succ, i64_w, i32_w]
      rfl
    refine pure_ (i := 19) (N := some 44) (v := ?_) (a' := ?_) #[true, true, true, true, true, true, true, true, true, true, true, true, true, true, true, true, true, true, true, true, false] rfl rfl (by kernel_rfl) (fun _ _ _ h => h) (Or.inl ⟨by rfl, ?_⟩) ?_ ?_
    rotate_left
    · intro w'
      go_simp
      with_reducible rfl
    rotate_left
    · simp only [Act.put, List.setIfInBounds_toArray, List.set_cons_zero, List.set_cons_succ, i64_w, i32_w]
      rfl
    refine last_ (i := 20) (N := none) #[true, true, true, true, true, true, true, true, true, true, true, true, true, true, true, true, true, true, true, true, true] rfl rfl (by kernel_rfl) (by decide) (fun K hK => ?_)
    refine skip_ (w1 := ?_) (by rfl) rfl ?_ ?_
    rotate_left
    · go_simp
      rfl
    refine hK.out _ _ ?_
    clear hK K
    refine done_ (by kernel_rfl) ?_

    go_wp2
    all_goals
      go_ret
      exact ⟨rfl, fin_put HbS.out HPS.out HB7.out HO7.out rfl⟩
  | false =>
    have hje : m = jb := by have := hno.out rfl; omega
    subst hje
    clear hit hno
    go_wp2
    have hTake := HTake.out
    have hDrop := HDrop.out
    refine start_ (n := 21) (S := fun w' => w'.cell? ⟨p, 0, none⟩ = some (.slice A ds.length c) ∧ w'.cell? ⟨w.heap.size, 0, none⟩ = some (.bool d.f0) ∧ w'.cell? ⟨w.heap.size, 1, none⟩ = some (.slice (some ad) d.f1.length c0) ∧ Aside0 (Below wS.heap.size wS w')) (ds := [20]) #[false, false, false, false, false, false, false, false, false, false, false, false, false, false, false, false, false, false, false, false, false] (by kernel_rfl) rfl rfl ⟨(by simpa using q0), (by simpa using q1), (by simpa using q2), ⟨below_drew1 (Below.refl _ _)⟩⟩ (fun hHeld => ?_)
    refine pure_ (i := 0) (N := some 25) (v := ?_) (a' := ?_) #[true, false, false, false, false, false, false, false, false, false, false, false, false, false, false, false, false, false, false, false, false] rfl rfl (by kernel_rfl) (fun _ _ _ h => h) (Or.inl ⟨by rfl, ?_⟩) ?_ ?_
    rotate_left
    · intro w'
      go_simp
      with_reducible rfl
    rotate_left
    · simp only [Act.put, List.setIfInBounds_toArray, List.set_cons_zero, List.set_cons_succ, i64_w, i32_w]
      rfl
    refine pure_ (i := 1) (N := some 26) (v := ?_) (a' := ?_) #[true, true, false, false, false, false, false, false, false, false, false, false, false, false, false, false, false, false, false, false, false] rfl rfl (by kernel_rfl) (fun _ _ _ h => h) (Or.inl ⟨by rfl, ?_⟩) ?_ ?_
    rotate_left
    · intro w'
      go_simp
      with_reducible rfl
    rotate_left
    · simp only [Act.put, List.setIfInBounds_toArray, List.set_cons_zero, List.set_cons_succ, i64_w, i32_w]
      rfl
    refine pure_ (i := 2) (N := some 27) (v := ?_) (a' := ?_) #[true, true, true, false, false, false, false, false, false, false, false, false, false, false, false, false, false, false, false, false, false] rfl rfl (by kernel_rfl) (fun _ _ _ h => h) (Or.inl ⟨by rfl, ?_⟩) ?_ ?_
    rotate_left
    · intro w'
      go_simp
      with_reducible rfl
    rotate_left
    · simp only [Act.put, List.setIfInBounds_toArray, List.set_cons_zero, List.set_cons_succ, i64_w, i32_w]
      rfl
    refine pure_ (i := 3) (N := some 28) (v := ?_) (a' := ?_) #[true, true, true, true, false, false, false, false, false, false, false, false, false, false, false, false, false, false, false, false, false] rfl rfl (by kernel_rfl) (fun _ _ _ h => h) (Or.inl ⟨by rfl, ?_⟩) ?_ ?_
    rotate_left
    · intro w'
      go_simp
      with_reducible rfl
    rotate_left
    · simp only [Act.put, List.setIfInBounds_toArray, List.set_cons_zero, List.set_cons_succ, i64_w, i32_w]
      rfl
    refine pure_ (i := 5) (N := some 30) (v := ?_) (a' := ?_) #[true, true, true, true, false, true, false, false, false, false, false, false, false, false, false, false, false, false, false, false, false] rfl rfl (by kernel_rfl) (fun _ _ _ h => h) (Or.inl ⟨by rfl, ?_⟩) ?_ ?_
    rotate_left
    · intro w'
      go_simp
      with_reducible rfl
    rotate_left
    · simp only [Act.put, List.setIfInBounds_toArray, List.set_cons_zero, List.set_cons_succ, i64_w, i32_w]
      rfl
    refine pure_ (i := 11) (N := some 36) (v := ?_) (a' := ?_) #[true, true, true, true, false, true, false, false, false, false, false, true, false, false, false, false, false, false, false, false, false] rfl rfl (by kernel_rfl) (fun _ _ _ h => h) (Or.inl ⟨by rfl, ?_⟩) ?_ ?_
    rotate_left
    · intro w'
      go_simp
      with_reducible rfl
    rotate_left
    · simp only [Act.put, List.setIfInBounds_toArray, List.set_cons_zero, List.set_cons_succ, i64_w, i32_w]
      rfl
    refine pure_ (i := 12) (N := some 37) (v := ?_) (a' := ?_) #[true, true, true, true, false, true, false, false, false, false, false, true, true, false, false, false, false, false, false, false, false] rfl rfl (by kernel_rfl) (fun _ _ _ h => h) (Or.inl ⟨by rfl, ?_⟩) ?_ ?_
    rotate_left
    · intro w'
      go_simp
      with_reducible rfl
    rotate_left
    · simp only [Act.put, List.setIfInBounds_toArray, List.set_cons_zero, List.set_cons_succ, i64_w, i32_w]
      rfl
    refine pure_ (i := 13) (N := some 38) (v := ?_) (a' := ?_) #[true, true, true, true, false, true, false, false, false, false, false, true, true, true, false, false, false, false, false, false, false] rfl rfl (by kernel_rfl) (fun _ _ _ h => h) (Or.inl ⟨by rfl, ?_⟩) ?_ ?_
    rotate_left
    · intro w'
      go_simp
      with_reducible rfl
    rotate_left
    · simp only [Act.put, List.setIfInBounds_toArray, List.set_cons_zero, List.set_cons_succ, i64_w, i32_w]
      rfl
    refine pure_ (i := 15) (N := some 40) (v := ?_) (a' := ?_) #[true, true, true, true, false, true, false, false, false, false, false, true, true, true, false, true, false, false, false, false, false] rfl rfl (by kernel_rfl) (fun _ _ _ h => h) (Or.inl ⟨by rfl, ?_⟩) ?_ ?_
    rotate_left
    · intro w'
      go_simp
      with_reducible rfl
    rotate_left
    · simp only [Act.put, List.setIfInBounds_toArray, List.set_cons_zero, List.set_cons_succ, i64_w, i32_w]
      rfl
    refine take_ (i := 4) (N := some 29) (v := ?_) (a' := ?_) #[true, true, true, true, true, true, false, false, false, false, false, true, true, true, false, true, false, false, false, false, false] rfl rfl (by kernel_rfl) (fun _ _ _ h => h) (Or.inl ⟨by rfl, ?_⟩) hHeld ?_ ?_
    rotate_left
    · rintro w' ⟨s0, s1, s2, s3⟩
      go_simp
      with_reducible rfl
    rotate_left
    · simp only [Act.put, List.setIfInBounds_toArray, List.set_cons_zero, List.set_cons_succ, i64_w, i32_w]
      rfl
    refine pure_ (i := 6) (N := some 31) (v := ?_) (a' := ?_) #[true, true, true, true, true, true, true, false, false, false, false, true, true, true, false, true, false, false, false, false, false] rfl rfl (by kernel_rfl) (fun _ _ _ h => h) (Or.inl ⟨by rfl, ?_⟩) ?_ ?_
    rotate_left
    · intro w'
      go_simp
      with_reducible rfl
    rotate_left
    · simp only [Act.put, List.setIfInBounds_toArray, List.set_cons_zero, List.set_cons_succ, i64_w, i32_w]
      rfl
    refine take_ (i := 8) (N := some 33) (v := ?_) (a' := ?_) #[true, true, true, true, true, true, true, false, true, false, false, true, true, true, false, true, false, false, false, false, false] rfl rfl (by kernel_rfl) (fun _ _ _ h => h) (Or.inl ⟨by rfl, ?_⟩) hHeld ?_ ?_
    rotate_left
    · rintro w' ⟨s0, s1, s2, s3⟩
      go_simp
      with_reducible rfl
    rotate_left
    · simp only [Act.put, List.setIfInBounds_toArray, List.set_cons_zero, List.set_cons_succ, i64_w, i32_w]
      rfl
    refine take_ (i := 14) (N := some 39) (v := ?_) (a' := ?_) #[true, true, true, true, true, true, true, false, true, false, false, true, true, true, true, true, false, false, false, false, false] rfl rfl (by kernel_rfl) (fun _ _ _ h => h) (Or.inl ⟨by rfl, ?_⟩) hHeld ?_ ?_
    rotate_left
    · rintro w' ⟨s0, s1, s2, s3⟩
      go_simp
      with_reducible rfl
    rotate_left
    · simp only [Act.put, List.setIfInBounds_toArray, List.set_cons_zero, List.set_cons_succ, i64_w, i32_w]
      rfl
    refine pure_ (i := 16) (N := some 41) (v := ?_) (a' := ?_) #[true, true, true, true, true, true, true, false, true, false, false, true, true, true, true, true, true, false, false, false, false] rfl rfl (by kernel_rfl) (fun _ _ _ h => h) (Or.inl ⟨by rfl, ?_⟩) ?_ ?_
    rotate_left
    · intro w'
      go_simp
      with_reducible rfl
    rotate_left
    · simp only [Act.put, List.setIfInBounds_toArray, List.set_cons_zero, List.set_cons_succ, i64_w, i32_w]
      rfl
    refine join_ (σ := Value × Nat) 5 #[true, true, true, true, true, true, true, true, true, true, false, true, true, true, true, true, true, false, false, false, false] (fun s_ => [(32, s_.1), (34, .slice (some ⟨s_.2, 0, none⟩) 1 1)]) (fun s_ w' => (w'.cell? ⟨p, 0, none⟩ = some (.slice A ds.length c) ∧ w'.cell? ⟨w.heap.size, 0, none⟩ = some (.bool d.f0) ∧ w'.cell? ⟨w.heap.size, 1, none⟩ = some (.slice (some ad) d.f1.length c0) ∧ Aside0 (Below wS.heap.size wS w')) ∧ Aside0 (Kd.R (oldK k25 we) 25 w' wS.heap.size (fun _ => True) s_.1 (ds.take m)) ∧ Aside0 (w'.heap[s_.2]? = some (.cells #[.bool d.f0, .slice (some ad) d.f1.length c0] 25 (0, 0))) ∧ Aside0 (some s_.2 ≠ s_.1.ownBlock)) ?_ ?_
    rotate_left
    · intro hCont
      refine two_ (i := 7) (j := 9) (Ni := some 32) (Nj := some 34) #[true, true, true, true, true, true, true, true, true, false, false, true, true, true, true, true, true, false, false, false, false] #[true, true, true, true, true, true, true, false, true, true, false, true, true, true, true, true, true, false, false, false, false] rfl rfl rfl rfl (by kernel_rfl) (by decide) (by decide) (fun K hK => ?_) (fun K hK => ?_)
      · skip
        refine Kd.R_append_rows_step (oldK k25 we) (w0 := wS) wS.heap.size (by rfl) (.const (.slice none 0 0)) (.tmp 31) 50 25 (.agg #[(.bool false), (.slice none 0 0)]) 32 rfl Try.underlying50 info25 rfl (show 0 < 2 by decide) (by omega) (.slice none 0 0) ([] : List S25) (ds.take m) _ _ _ (fun _ => True) (fun _ => False) rfl rfl ?aO ?aR (fun _ _ h => h) (fun _ h => h.elim) (fun _ _ => trivial) hHeld.2.2.2.out hHeld.2.2.2.out.size ?aL ?_
        (case aO => exact Kd.R_nil _ _ _ _ _)
        (case aR => exact hTake _ hHeld.2.2.2.out)
        (case aL => simp only [List.length_nil]; omega)
        intro v1 w3 ho hb hg hat
        have HS0_ := cell_grown hg hHeld.1 (by simp [Value.ownBlock])
        have HS1_ := cell_grown hg hHeld.2.1 (by simp [Value.ownBlock])
        have HS2_ := cell_grown hg hHeld.2.2.1 (by simp [Value.ownBlock])
        have HO1 := Aside0.mk ho
        clear ho hg hat
        refine hK.out _ _ ⟨HS0_, HS1_, HS2_, ⟨hb⟩⟩ (fun hHeld => ?_)
        clear hK K
        refine norm_ (a' := ?_) ?_ ?_
        rotate_left
        · show Act.put _ (some 32) _ = _
          simp only [Act.put, List.setIfInBounds_toArray, List.set_cons_zero, List.set_cons_succ, i64_w, i32_w]
          rfl
        refine one_ (i := 9) (N := some 34) #[true, true, true, true, true, true, true, true, true, true, false, true, true, true, true, true, true, false, false, false, false] rfl rfl (by kernel_rfl) (by decide) (fun K hK => ?_)
        refine value_ (w1 := ?_) (v := ?_) (by rfl) rfl ?_ ?_
        rotate_left 2
        · go_simp
          constructor
          · rfl
          · rfl
        have HBX1 := Aside0.mk (heap_alloc_new w3 (.cells #[.bool d.f0, .slice (some ad) d.f1.length c0] 25))
        have HNE1 : Aside0 (some w3.heap.size ≠ v1.ownBlock) := ⟨ne_of_lt HO1.out⟩
        have HO2 := Aside0.mk (Kd.R_below HO1.out (below_alloc (Below.refl _ _) (.cells #[.bool d.f0, .slice (some ad) d.f1.length c0] 25)))
        refine hK.out _ _ ⟨(cell_alloc1 hHeld.1), (cell_alloc1 hHeld.2.1), (cell_alloc1 hHeld.2.2.1), ⟨below_alloc hHeld.2.2.2.out _⟩⟩ (fun hHeld => ?_)
        clear hK K
        refine norm_ (a' := ?_) ?_ ?_
        rotate_left
        · show Act.put _ (some 34) _ = _
          simp only [Act.put, List.setIfInBounds_toArray, List.set_cons_zero, List.set_cons_succ, i64_w, i32_w]
          rfl
        exact norm_ (by simp only [putAll, Act.put, List.setIfInBounds_toArray, List.set_cons_zero, List.set_cons_succ]) (hCont (v1, w3.heap.size) _ ⟨hHeld, HO2, HBX1, HNE1⟩)
      · skip
        refine value_ (w1 := ?_) (v := ?_) (by rfl) rfl ?_ ?_
        rotate_left 2
        · go_simp
          constructor
          · rfl
          · rfl
        have HBX := Aside0.mk (heap_alloc_new wS.drew (.cells #[.bool d.f0, .slice (some ad) d.f1.length c0] 25))
        refine hK.out _ _ ⟨(cell_alloc1 hHeld.1), (cell_alloc1 hHeld.2.1), (cell_alloc1 hHeld.2.2.1), ⟨below_alloc hHeld.2.2.2.out _⟩⟩ (fun hHeld => ?_)
        clear hK K
        refine norm_ (a' := ?_) ?_ ?_
        rotate_left
        · show Act.put _ (some 34) _ = _
          simp only [Act.put, List.setIfInBounds_toArray, List.set_cons_zero, List.set_cons_succ, i64_w, i32_w]
          rfl
        refine one_ (i := 7) (N := some 32) #[true, true, true, true, true, true, true, true, true, true, false, true, true, true, true, true, true, false, false, false, false] rfl rfl (by kernel_rfl) (by decide) (fun K hK => ?_)
        refine Kd.R_append_rows_step (oldK k25 we) (w0 := wS) wS.heap.size (by rfl) (.const (.slice none 0 0)) (.tmp 31) 50 25 (.agg #[(.bool false), (.slice none 0 0)]) 32 rfl Try.underlying50 info25 rfl (show 0 < 2 by decide) (by omega) (.slice none 0 0) ([] : List S25) (ds.take m) _ _ _ (fun _ => True) (fun _ => False) rfl rfl ?aO ?aR (fun _ _ h => h) (fun _ h => h.elim) (fun _ _ => trivial) hHeld.2.2.2.out hHeld.2.2.2.out.size ?aL ?_
        (case aO => exact Kd.R_nil _ _ _ _ _)
        (case aR => exact hTake _ hHeld.2.2.2.out)
        (case aL => simp only [List.length_nil]; omega)
        intro v1 w3 ho hb hg hat
        have HS0_ := cell_grown hg hHeld.1 (by simp [Value.ownBlock])
        have HS1_ := cell_grown hg hHeld.2.1 (by simp [Value.ownBlock])
        have HS2_ := cell_grown hg hHeld.2.2.1 (by simp [Value.ownBlock])
        have hbx := HBX.out
        have HBX1 := Aside0.mk ((hg.block _ (Array.getElem?_eq_some_iff.1 hbx).1 (by simp [Value.ownBlock])).trans hbx)
        have HNE1 : Aside0 (some wS.heap.size ≠ v1.ownBlock) := ⟨ne_of_at hat (by simp [Value.ownBlock]) (by simp)⟩
        clear hbx
        have HO1 := Aside0.mk ho
        clear ho hg hat
        refine hK.out _ _ ⟨HS0_, HS1_, HS2_, ⟨hb⟩⟩ (fun hHeld => ?_)
        clear hK K
        refine norm_ (a' := ?_) ?_ ?_
        rotate_left
        · show Act.put _ (some 32) _ = _
          simp only [Act.put, List.setIfInBounds_toArray, List.set_cons_zero, List.set_cons_succ, i64_w, i32_w]
          rfl
        exact norm_ (by simp only [putAll, Act.put, List.setIfInBounds_toArray, List.set_cons_zero, List.set_cons_succ]) (hCont (v1, wS.heap.size) _ ⟨hHeld, HO1, HBX1, HNE1⟩)
    rintro ⟨v1, g⟩ w4 ⟨hHeld, HO, HX, HN⟩
    dsimp only at hHeld HO HX HN
    refine norm_ (a' := ?_) ?_ ?_
    rotate_left
    · simp only [putAll, Act.put, List.setIfInBounds_toArray, List.set_cons_zero, List.set_cons_succ]
      rfl
    refine one_ (i := 10) (N := some 35) #[true, true, true, true, true, true, true, true, true, true, true, true, true, true, true, true, true, false, false, false, false] rfl rfl (by kernel_rfl) (by decide) (fun K hK => ?_)
    refine Kd.R_append_rows_step (oldK k25 we) (w0 := wS) wS.heap.size (by rfl) (.tmp 32) (.tmp 34) 50 25 (.agg #[(.bool false), (.slice none 0 0)]) 32 rfl Try.underlying50 info25 rfl (show 0 < 2 by decide) (by omega) v1 (ds.take m) [d] _ _ _ (fun _ => True) (fun _ => False) rfl rfl ?aO ?aR (fun _ _ h => h) (fun _ h => h.elim) (fun _ _ => trivial) hHeld.2.2.2.out hHeld.2.2.2.out.size ?aL ?_
    (case aO => exact HO.out)
    (case aR => exact old_one HX.out hKd.out)
    (case aL => simp only [List.length_take]; omega)
    intro v5 w5 ho hb hg hat
    have HS0_ := cell_grown hg hHeld.1 (old_ne HO.out hpS)
    have HS1_ := cell_grown hg hHeld.2.1 (old_ne HO.out hdS)
    have HS2_ := cell_grown hg hHeld.2.2.1 (old_ne HO.out hdS)
    have HO5 := Aside0.mk ho
    clear ho hg hat
    refine hK.out _ _ ⟨HS0_, HS1_, HS2_, ⟨hb⟩⟩ (fun hHeld => ?_)
    clear hK K
    refine norm_ (a' := ?_) ?_ ?_
    rotate_left
    · show Act.put _ (some 35) _ = _
      simp only [Act.put, List.setIfInBounds_toArray, List.set_cons_zero, List.set_cons_succ, i64_w, i32_w]
      rfl
    refine one_ (i := 17) (N := some 42) #[true, true, true, true, true, true, true, true, true, true, true, true, true, true, true, true, true, true, false, false, false] rfl rfl (by kernel_rfl) (by decide) (fun K hK => ?_)
    refine Kd.R_append_rows_step (oldK k25 we) (w0 := wS) wS.heap.size (by rfl) (.tmp 35) (.tmp 41) 50 25 (.agg #[(.bool false), (.slice none 0 0)]) 32 rfl Try.underlying50 info25 rfl (show 0 < 2 by decide) (by omega) v5 (ds.take m ++ [d]) (ds.drop m) _ _ _ (fun _ => True) (fun _ => False) rfl rfl ?aO ?aR (fun _ _ h => h) (fun _ h => h.elim) (fun _ _ => trivial) hHeld.2.2.2.out hHeld.2.2.2.out.size ?aL ?_
    (case aO => exact HO5.out)
    (case aR => exact hDrop _ hHeld.2.2.2.out)
    (case aL => simp only [List.length_append, List.length_take, List.length_singleton]; omega)
    intro v7 w7 ho hb hg hat
    rw [hpu.out] at ho
    obtain ⟨A7, c7, hv7⟩ := Kd.R_slice ho
    subst hv7
    have HS0_ := cell_grown hg hHeld.1 (old_ne HO5.out hpS)
    have HS1_ := cell_grown hg hHeld.2.1 (old_ne HO5.out hdS)
    have HS2_ := cell_grown hg hHeld.2.2.1 (old_ne HO5.out hdS)
    have HO7 := Aside0.mk ho
    clear ho hg hat
    have f7 : w7.frozen? ⟨p, 0, none⟩ = false := blk_frozen (blk_below HPS.out hb) 0
    have HB7 := Aside0.mk hb
    refine hK.out _ _ ⟨HS0_, HS1_, HS2_, ⟨hb⟩⟩ (fun hHeld => ?_)
    clear hK K
    refine norm_ (a' := ?_) ?_ ?_
    rotate_left
    · show Act.put _ (some 42) _ = _
      simp only [Act.put, List.setIfInBounds_toArray, List.set_cons_zero, List.set_cons_succ, i64_w, i32_w]
      rfl
    refine pure_ (i := 18) (N := some 43) (v := ?_) (a' := ?_) #[true, true, true, true, true, true, true, true, true, true, true, true, true, true, true, true, true, true, true, false, false] rfl rfl (by kernel_rfl) (fun _ _ _ h => h) (Or.inl ⟨by rfl, ?_⟩) ?_ ?_
    rotate_left
    · intro w'
      go_simp
      with_reducible rfl
    rotate_left
    · simp only [Act.put, List.setIfInBounds_toArray, List.set_cons_zero, List.set_cons_succ, i64_w, i32_w]
      rfl
    refine pure_ (i := 19) (N := some 44) (v := ?_) (a' := ?_) #[true, true, true, true, true, true, true, true, true, true, true, true, true, true, true, true, true, true, true, true, false] rfl rfl (by kernel_rfl) (fun _ _ _ h => h) (Or.inl ⟨by rfl, ?_⟩) ?_ ?_
    rotate_left
    · intro w'
      go_simp
      with_reducible rfl
    rotate_left
    · simp only [Act.put, List.setIfInBounds_toArray, List.set_cons_zero, List.set_cons_succ, i64_w, i32_w]
      rfl
    refine last_ (i := 20) (N := none) #[true, true, true, true, true, true, true, true, true, true, true, true, true, true, true, true, true, true, true, true, true] rfl rfl (by kernel_rfl) (by decide) (fun K hK => ?_)
    refine skip_ (w1 := ?_) (by rfl) rfl ?_ ?_
    rotate_left
    · go_simp
      rfl
    refine hK.out _ _ ?_
    clear hK K
    refine done_ (by kernel_rfl) ?_

    go_wp2
    all_goals
      go_ret
      exact ⟨rfl, fin_put HbS.out HPS.out HB7.out HO7.out rfl⟩
end Go.Proofs.Ytnfliommpdjlkaa.Pr
