/- MgF MgG -/
import Derived.Test.YthlelhndmnkmjaaMhB
import Derived.Deep.RegionWith
import Derived.Deep.RegionHeld3
import Derived.RegionIn
import Derived.Test.YthlelhndmnkmjaaPrf22
section
namespace Go.Proofs.Ythlelhndmnkmjaa.Pr
open Go.RowKit Go.Proofs.Ythlelhndmnkmjaa.Brid Go.Proofs.YthlelhndmnkmjaaW.PrintWords Go.Proofs.YthlelhndmnkmjaaW.PrintLast Go.Proofs.YthlelhndmnkmjaaW.PrintMore
set_option linter.unusedVariables false
set_option linter.unusedSimpArgs false
set_option maxHeartbeats 4000000
set_option maxRecDepth 100000
theorem k41_sz : k41.sz = 2 := rfl
def hitV (k : S37) (ds : List S41) : Bool := match postOf keyT k ds with | [] => false | e :: _ => !lessT k (keyT e)
theorem pre_len (k : S37) (ds : List S41) : (preOf keyT k ds).length ≤ ds.length := by
  have h := congrArg List.length (pre_post keyT k ds); rw [List.length_append] at h; omega
theorem post_cut (k : S37) (ds : List S41) : ds.drop (preOf keyT k ds).length = postOf keyT k ds := by
  have h := pre_post keyT k ds
  generalize preOf keyT k ds = u at *
  generalize postOf keyT k ds = v at *
  subst h
  simp
theorem pre_cut (k : S37) (ds : List S41) : ds.take (preOf keyT k ds).length = preOf keyT k ds := by
  have h := pre_post keyT k ds
  generalize preOf keyT k ds = u at *
  generalize postOf keyT k ds = v at *
  subst h
  simp
theorem hit_end {k : S37} {ds : List S41} (h : (preOf keyT k ds).length = ds.length) : hitV k ds = false := by
  have h2 := post_cut k ds
  rw [h, List.drop_length] at h2
  unfold hitV
  rw [← h2]
theorem hit_at {k : S37} {ds : List S41} (h : (preOf keyT k ds).length < ds.length) : lessT (keyT ds[(preOf keyT k ds).length]) k = false ∧ hitV k ds = !lessT k (keyT ds[(preOf keyT k ds).length]) := by
  have h2 := post_cut k ds
  rw [List.drop_eq_getElem_cons h] at h2
  refine ⟨?_, ?_⟩
  · cases hc : lessT (keyT ds[(preOf keyT k ds).length]) k with
    | false => rfl
    | true =>
      have h4 : (postOf keyT k ds).head? = some ds[(preOf keyT k ds).length] := by rw [← h2]; rfl
      have h5 := List.head?_dropWhile_not (fun n => lessT (keyT n) k) ds
      unfold postOf at h4
      rw [h4] at h5
      simp [hc] at h5
  · unfold hitV
    rw [← h2]
theorem putV_at (ds : List S41) (d : S41) : ds.take (preOf keyT (keyT d) ds).length ++ [d] ++ ds.drop (if hitV (keyT d) ds = true then (preOf keyT (keyT d) ds).length + 1 else (preOf keyT (keyT d) ds).length) = putV ds d := by
  have h2 := post_cut (keyT d) ds
  rw [pre_cut]
  unfold putV hitV
  cases hp : postOf keyT (keyT d) ds with
  | nil =>
    rw [hp] at h2
    simp [h2]
  | cons e r =>
    rw [hp] at h2
    have h3 : ds.drop ((preOf keyT (keyT d) ds).length + 1) = r := by rw [← List.drop_drop, h2]; rfl
    cases hl : lessT (keyT d) (keyT e) with
    | true => simp [h2, hl]
    | false => simp [h3, hl]
theorem place_T (q : Nat) (k : S37) (ds : List S41) (A : Option Addr) (c : Nat) (w : World) (hb : w.heap[q]? = some (.cells #[.slice A ds.length c] 77 (0, 0))) (hC : Kd.C k41 w A ds.length ds) (hn : ds.length ≤ 4611686018427387904)
    (hf : ∀ d ∈ ds, d.f1.length ≠ 0) (hs : ∀ d ∈ ds, (keyT d).f2.size ≤ 9223372036854775807) (hk : k.f2.size ≤ 9223372036854775807) :
    Calls Try.prog 72 #[.pointer (some ⟨q, 0, none⟩), .agg (cellsT k)] w fun e w' => e = .returned (.tuple #[.int .i64 (preOf keyT k ds).length, .bool (hitV k ds)]) ∧ Below w.heap.size w w' := by
  have b1 := below_alloc (Below.refl w.heap.size w) (.cells (cellsT k) 37)
  have kb := heap_alloc_new w (.cells (cellsT k) 37)
  have hpl := pre_len k ds
  have hat := fun h => hit_at (k := k) (ds := ds) h
  have hen := fun h => hit_end (k := k) (ds := ds) h
  have hpr : ∀ (i : Nat) (hi : i < (preOf keyT k ds).length) (hj : i < ds.length), lessT (keyT ds[i]) k = true := fun i hi hj => by
    have e1 := pre_post keyT k ds
    have h2 : (preOf keyT k ds)[i] = ds[i] := by
      have : (preOf keyT k ds ++ postOf keyT k ds)[i]? = ds[i]? := by rw [e1]
      rw [List.getElem?_append_left hi, List.getElem?_eq_getElem hi, List.getElem?_eq_getElem hj] at this
      exact Option.some.inj this
    have := preOf_less keyT k ds _ (List.getElem_mem hi)
    rwa [h2] at this
  generalize (preOf keyT k ds).length = m at *
  generalize hitV k ds = hv at *
  have HPL := Aside0.mk hpl
  have HAT := Aside0.mk hat
  have HEN := Aside0.mk hen
  have HPR := Aside0.mk hpr
  clear hpl hat hen hpr
  have HB := Aside0.mk hb
  have HC := Aside0.mk hC
  have HF := Aside0.mk hf
  have HS := Aside0.mk hs
  have HK := Aside0.mk hk
  have HB1 := Aside0.mk b1
  have HKB := Aside0.mk kb
  clear hb hC hf hs hk b1 kb
  go_enter Try.func72, Try.ntmps72
  go_wp2
  go_loopg [6] ds.length (fun kx a wr => ∃ i : Nat, a = .int .i64 i ∧ i ≤ m ∧ m - i ≤ kx ∧ Aside0 (Below w.heap.size w wr) ∧ Aside0 (wr.heap[w.heap.size]? = some (.cells (cellsT k) 37 (0, 0))))
  case atStart => exact ⟨0, rfl, Nat.zero_le _, by have := HPL.out; omega, HB1, HKB⟩
  case round =>
    obtain ⟨i, rfl, hi, hkx, B, KB⟩ := hrel
    have hq := blk_below HB.out B.out
    have LQ : ∀ s : SomeW wr, s.W.cell? ⟨q, 0, none⟩ = some (.slice A ds.length c) := fun s => cell_some ((blk_cell hq 0).trans rfl) s
    have LK0 : ∀ s : SomeW wr, s.W.cell? ⟨w.heap.size, 0, none⟩ = some (.bool k.f0) := fun s => cell_some ((blk_cell KB.out 0).trans rfl) s
    have LK1 : ∀ s : SomeW wr, s.W.cell? ⟨w.heap.size, 1, none⟩ = some (.int .i64 k.f1) := fun s => cell_some ((blk_cell KB.out 1).trans rfl) s
    have LK2 : ∀ s : SomeW wr, s.W.cell? ⟨w.heap.size, 2, none⟩ = some (.string k.f2) := fun s => cell_some ((blk_cell KB.out 2).trans rfl) s
    clear hq
    by_cases hlt : i < m
    · have hlt2 : i < ds.length := by have := HPL.out; omega
      have hltz : (i : Int) < (ds.length : Int) := by omega
      have hiz : (0 : Int) ≤ (i : Int) := by omega
      have hltb : decide ((i : Int) < (ds.length : Int)) = true := decide_eq_true hltz
      have hless := HPR.out i hlt hlt2
      obtain ⟨ad, Ar, cr, eA, x0, x1, hcr, hCr⟩ := at_T41 (Kd.C_below HC.out B.out) (i : Int) hiz hltz
      subst eA
      rw [rdD_at ds i hlt2] at x0 x1 hcr hCr
      simp only [Int.toNat_natCast] at x0 x1
      have hne : ds[i].f1.length ≠ 0 := HF.out _ (List.getElem_mem hlt2)
      have hpz : (0 : Int) < (ds[i].f1.length : Int) := by omega
      obtain ⟨ak, eK, y0, y1, y2⟩ := at_T37 (show Kd.C k37 wr Ar ds[i].f1.length ds[i].f1 from hCr) (0 : Int) (by omega) hpz
      subst eK
      have hsz := HS.out _ (List.getElem_mem hlt2)
      generalize ds[i] = d at *
      have X1 : ∀ s : SomeW wr, s.W.cell? ⟨(ad.add (i * 2)).block, (ad.add (i * 2)).off + 1, none⟩ = some (.slice (some ak) d.f1.length cr) := fun s => cell_some x1 s
      have Y0 : ∀ s : SomeW wr, s.W.cell? ak = some (.bool (keyT d).f0) := fun s => cell_some y0 s
      have Y1 : ∀ s : SomeW wr, s.W.cell? ⟨ak.block, ak.off + 1, none⟩ = some (.int .i64 (keyT d).f1) := fun s => cell_some y1 s
      have Y2 : ∀ s : SomeW wr, s.W.cell? ⟨ak.block, ak.off + 2, none⟩ = some (.string (keyT d).f2) := fun s => cell_some y2 s
      have hah := fun V1 => ahead_T (keyT d) k V1 hsz
      rw [hless] at hah
      clear hless x0 x1 y0 y1 y2 hcr hCr hne
      go_wp2
      refine wp_region_quiet_some mixed_T (by kernel_rfl) ?_
      repeat (go_big_quiet_step (first | (go_at_call 50; refine Calls.below_some (hah _))))
      refine wpQuiet_nil ?_
      intro U3 hw'
      obtain ⟨p_, hp_⟩ := hw'
      have hbU : Below wr.heap.size wr U3 := by rw [hp_]; exact p_.h
      clear hp_ p_ LQ LK0 LK1 LK2 X1 Y0 Y1 Y2 hah hltb
      have HBU := Aside0.mk hbU
      clear hbU
      go_wp2
      go_roundg (m - (i + 1))
      case measure => omega
      case rel => exact ⟨i + 1, by go_num, by omega, by omega, ⟨below_then B.out B.out.size HBU.out⟩, ⟨blk_below KB.out HBU.out⟩⟩
    · obtain rfl : m = i := by omega
      by_cases hend : m < ds.length
      · obtain ⟨hless, hhit⟩ := HAT.out hend
        have HHIT := Aside0.mk hhit
        clear hhit
        have hCw := Kd.C_below HC.out B.out
        have HF' := HF.out _ (List.getElem_mem hend)
        have HS' := HS.out _ (List.getElem_mem hend)
        have hltz : (m : Int) < (ds.length : Int) := by omega
        have hiz : (0 : Int) ≤ (m : Int) := by omega
        have hltb : decide ((m : Int) < (ds.length : Int)) = true := decide_eq_true hltz
        obtain ⟨ad, Ar, cr, eA, x0, x1, hcr, hCr⟩ := at_T41 hCw (m : Int) hiz hltz
        subst eA
        rw [rdD_at ds m hend] at x0 x1 hcr hCr
        simp only [Int.toNat_natCast] at x0 x1
        have hpz : (0 : Int) < (ds[m].f1.length : Int) := by omega
        obtain ⟨ak, eK, y0, y1, y2⟩ := at_T37 (show Kd.C k37 wr Ar ds[m].f1.length ds[m].f1 from hCr) (0 : Int) (by omega) hpz
        subst eK
        generalize ds[m] = d at *
        have X1 : ∀ s : SomeW wr, s.W.cell? ⟨(ad.add (m * 2)).block, (ad.add (m * 2)).off + 1, none⟩ = some (.slice (some ak) d.f1.length cr) := fun s => cell_some x1 s
        have Y0 : ∀ s : SomeW wr, s.W.cell? ak = some (.bool (keyT d).f0) := fun s => cell_some y0 s
        have Y1 : ∀ s : SomeW wr, s.W.cell? ⟨ak.block, ak.off + 1, none⟩ = some (.int .i64 (keyT d).f1) := fun s => cell_some y1 s
        have Y2 : ∀ s : SomeW wr, s.W.cell? ⟨ak.block, ak.off + 2, none⟩ = some (.string (keyT d).f2) := fun s => cell_some y2 s
        have hah := fun V1 => ahead_T (keyT d) k V1 HS'
        have hah2 := fun V1 => ahead_T k (keyT d) V1 HK.out
        rw [hless] at hah
        have HX1 := Aside0.mk x1
        have HY0 := Aside0.mk y0
        have HY1 := Aside0.mk y1
        have HY2 := Aside0.mk y2
        clear hless x0 x1 y0 y1 y2 hcr hCr HF' hCw hkx hi hlt
        go_wp2
        refine wp_region_quiet_some mixed_T (by kernel_rfl) ?_
        repeat (go_big_quiet_step (first | (go_at_call 50; refine Calls.below_some (hah _))))
        refine wpQuiet_nil ?_
        intro U3 hw'
        obtain ⟨p_, hp_⟩ := hw'
        have hbU : Below wr.heap.size wr U3 := by rw [hp_]; exact p_.h
        clear hp_ p_ LQ LK0 LK1 LK2 X1 Y0 Y1 Y2 hah
        have HBU := Aside0.mk hbU
        have hq := blk_below HB.out (below_then B.out B.out.size hbU)
        have hkb := blk_below KB.out hbU
        have LQ : ∀ s : SomeW U3, s.W.cell? ⟨q, 0, none⟩ = some (.slice (some ad) ds.length c) := fun s => cell_some ((blk_cell hq 0).trans rfl) s
        have LK0 : ∀ s : SomeW U3, s.W.cell? ⟨w.heap.size, 0, none⟩ = some (.bool k.f0) := fun s => cell_some ((blk_cell hkb 0).trans rfl) s
        have LK1 : ∀ s : SomeW U3, s.W.cell? ⟨w.heap.size, 1, none⟩ = some (.int .i64 k.f1) := fun s => cell_some ((blk_cell hkb 1).trans rfl) s
        have LK2 : ∀ s : SomeW U3, s.W.cell? ⟨w.heap.size, 2, none⟩ = some (.string k.f2) := fun s => cell_some ((blk_cell hkb 2).trans rfl) s
        have X1 : ∀ s : SomeW U3, s.W.cell? ⟨(ad.add (m * 2)).block, (ad.add (m * 2)).off + 1, none⟩ = some (.slice (some ak) d.f1.length cr) := fun s => cell_some ((Below.cell hbU (World.block_lt_of_cell? _ _ HX1.out)).trans HX1.out) s
        have Y0 : ∀ s : SomeW U3, s.W.cell? ak = some (.bool (keyT d).f0) := fun s => cell_some ((Below.cell hbU (World.block_lt_of_cell? _ _ HY0.out)).trans HY0.out) s
        have Y1 : ∀ s : SomeW U3, s.W.cell? ⟨ak.block, ak.off + 1, none⟩ = some (.int .i64 (keyT d).f1) := fun s => cell_some ((Below.cell hbU (World.block_lt_of_cell? _ _ HY1.out)).trans HY1.out) s
        have Y2 : ∀ s : SomeW U3, s.W.cell? ⟨ak.block, ak.off + 2, none⟩ = some (.string (keyT d).f2) := fun s => cell_some ((Below.cell hbU (World.block_lt_of_cell? _ _ HY2.out)).trans HY2.out) s
        clear hbU hq hkb
        go_wp2
        refine wp_region_quiet_some mixed_T (by kernel_rfl) ?_
        repeat (go_big_quiet_step (first | (go_at_call 50; refine Calls.below_some (hah2 _))))
        refine wpQuiet_nil ?_
        intro U4 hw'
        obtain ⟨p_, hp_⟩ := hw'
        have hbU : Below U3.heap.size U3 U4 := by rw [hp_]; exact p_.h
        clear hp_ p_ LQ LK0 LK1 LK2 X1 Y0 Y1 Y2 hah2
        have HBV := Aside0.mk (below_then B.out B.out.size (below_then HBU.out HBU.out.size hbU))
        clear hbU
        go_wp2
        go_ret2
        exact ⟨by rw [HHIT.out]; rfl, HBV.out⟩
      · have hee : m = ds.length := by have := HPL.out; omega
        have HHIT := Aside0.mk (HEN.out hee)
        have HEE := Aside0.mk hee
        have hnb : decide ((m : Int) < (ds.length : Int)) = false := decide_eq_false (by omega)
        have hnz : ¬ (m : Int) < (ds.length : Int) := by omega
        have hnn : ¬ m < ds.length := by omega
        clear hkx hi hlt hend hee
        go_wp2
        refine wp_region_quiet_some mixed_T (by kernel_rfl) ?_
        repeat (go_big_quiet_step (fail))
        refine wpQuiet_nil ?_
        intro U3 hw'
        obtain ⟨p_, hp_⟩ := hw'
        have hbU : Below wr.heap.size wr U3 := by rw [hp_]; exact p_.h
        clear hp_ p_ LQ LK0 LK1 LK2
        have HBU := Aside0.mk hbU
        have hq := blk_below HB.out (below_then B.out B.out.size hbU)
        have LQ : ∀ s : SomeW U3, s.W.cell? ⟨q, 0, none⟩ = some (.slice A ds.length c) := fun s => cell_some ((blk_cell hq 0).trans rfl) s
        clear hbU hq
        go_wp2
        refine wp_region_quiet_some mixed_T (by kernel_rfl) ?_
        repeat (go_big_quiet_step (fail))
        refine wpQuiet_nil ?_
        intro U4 hw'
        obtain ⟨p_, hp_⟩ := hw'
        have hbU : Below U3.heap.size U3 U4 := by rw [hp_]; exact p_.h
        clear hp_ p_ LQ
        have HBV := Aside0.mk (below_then B.out B.out.size (below_then HBU.out HBU.out.size hbU))
        clear hbU
        go_wp2
        go_ret2
        exact ⟨by rw [HHIT.out]; rfl, HBV.out⟩
theorem ne_of_at {W : World} {v v1 : Value} {g : Nat} (hat : v1.ownBlock = v.ownBlock ∨ ∃ b, v1.ownBlock = some b ∧ W.heap.size ≤ b) (h0 : v.ownBlock = none) (hg : g < W.heap.size) : some g ≠ v1.ownBlock := by
  rcases hat with h | ⟨b, h, hb⟩
  · rw [h, h0]; simp
  · rw [h]; intro e; injection e with e; omega
theorem old_lt {α : Type} {d : Kd α} {e : Nat} {w : World} {base : Nat} {ok : Nat → Prop} {v : Value} {xs : List α} (h : d.R e w base ok v xs) : ∀ k, some k = v.ownBlock → base ≤ k ∧ k < w.heap.size := fun k hk => by
  obtain ⟨_, inner, ho, _⟩ := h
  exact ⟨own_base ho k hk.symm, own_lt ho k hk.symm⟩
theorem ne_of_lt {α : Type} {d : Kd α} {e : Nat} {w : World} {base : Nat} {ok : Nat → Prop} {v : Value} {xs : List α} (h : d.R e w base ok v xs) : some w.heap.size ≠ v.ownBlock := fun hk => by have := (old_lt h _ hk).2; omega
theorem old_ne {α : Type} {d : Kd α} {e : Nat} {w : World} {base : Nat} {ok : Nat → Prop} {v : Value} {xs : List α} (h : d.R e w base ok v xs) {k : Nat} (hk : k < base) : some k ≠ v.ownBlock := fun he => by have := (old_lt h _ he).1; omega
theorem k41_mkK (W : World) (d : S41) {A : Option Addr} {c : Nat} (hc : d.f1.length ≤ c) (h : Kd.C k37 W A d.f1.length d.f1) : k41.K W d [.bool d.f0, .slice A d.f1.length c] :=
  ⟨[.bool d.f0], [.slice A d.f1.length c], rfl, rfl, ⟨A, c, rfl, hc, h⟩⟩
theorem old_one {w we : World} {g : Nat} {d : S41} {A : Option Addr} {c : Nat} (h : w.heap[g]? = some (.cells #[.bool d.f0, .slice A d.f1.length c] 41 (0, 0))) (hK : k41.K we d [.bool d.f0, .slice A d.f1.length c]) : Kd.C (oldK k41 we) w (some ⟨g, 0, none⟩) 1 [d] := by
  refine ⟨rfl, by omega, fun _ => ⟨⟨g, 0, none⟩, rfl, fun j p hj => ?_⟩⟩
  cases j with
  | zero =>
    simp only [List.getElem?_cons_zero, Option.some.injEq] at hj
    subst hj
    refine ⟨_, rfl, hK, fun i u hi => ?_⟩
    have h1 : w.cell? ⟨g, i, none⟩ = some u := (blk_cell h i).trans (by simpa using hi)
    have e2 : (⟨g, 0, none⟩ : Addr).add (0 * (oldK k41 we).sz + i) = ⟨g, i, none⟩ := by
      rw [Nat.zero_mul, Nat.zero_add]
      unfold Addr.add
      by_cases h0 : i = 0
      · subst h0; rfl
      · simp [h0]
    rw [e2]; exact h1
  | succ j => simp at hj
theorem fin_put {w wS w7 we : World} {p : Nat} {v7 : Value} {u : Value} {xs ys : List S41} (hb : Below w.heap.size w wS) (hp : wS.heap[p]? = some (.cells #[u] 77 (0, 0))) (hb7 : Below wS.heap.size wS w7) (hR : Kd.R (oldK k41 we) 41 w7 wS.heap.size (fun _ => True) v7 xs) (e : xs = ys) :
    Fr (fun k => k = p) w (w7.setCell ⟨p, 0, none⟩ v7) ∧ ∃ v', (w7.setCell ⟨p, 0, none⟩ v7).heap[p]? = some (.cells #[v'] 77 (0, 0)) ∧ Kd.R (oldK k41 we) 41 (w7.setCell ⟨p, 0, none⟩ v7) w.heap.size (fun _ => True) v' ys := by
  subst e
  have hbb := below_then hb hb.size hb7
  have hp7 := blk_below hp hb7
  refine ⟨(Fr.of_below hbb : Fr (fun k => k = p) w w7).set (.inl rfl) 0 v7, v7, blk_set hp7 0 v7, Kd.R_lower (Kd.R_set hR hp7 (fun q hq => ?_) 0 v7) hb.size⟩
  simp [oldK] at hq
  omega
theorem PutR_T (p : Nat) (d : S41) (A0 : Option Addr) (c0 : Nat) (ds : List S41) (A : Option Addr) (c : Nat) (we w : World) (hp : w.heap[p]? = some (.cells #[.slice A ds.length c] 77 (0, 0))) (hO : Kd.C (oldK k41 we) w A ds.length ds) (hc : ds.length ≤ c) (hb : Below we.heap.size we w)
    (hC : Kd.C k37 we A0 d.f1.length d.f1) (hc0 : d.f1.length ≤ c0) (hn : ds.length ≤ 1099511627776) (hf : ∀ e ∈ ds, e.f1.length ≠ 0) (hs : ∀ e ∈ ds, (keyT e).f2.size ≤ 9223372036854775807) (hk : (keyT d).f2.size ≤ 9223372036854775807) (hl : 0 < d.f1.length) :
    Calls Try.prog 43 #[.pointer (some ⟨p, 0, none⟩), .agg #[.bool d.f0, .slice A0 d.f1.length c0]] w fun e w' => e = .returned (.bool true) ∧ Fr (fun k => k = p) w w' ∧ ∃ v', w'.heap[p]? = some (.cells #[v'] 77 (0, 0)) ∧ Kd.R (oldK k41 we) 41 w' w.heap.size (fun _ => True) v' (putV ds d) := by
  have b1 := below_alloc (Below.refl w.heap.size w) (.cells #[.bool d.f0, .slice A0 d.f1.length c0] 41)
  have kb := heap_alloc_new w (.cells #[.bool d.f0, .slice A0 d.f1.length c0] 41)
  have hz1 : (w.alloc (.cells #[.bool d.f0, .slice A0 d.f1.length c0] 41)).heap.size = w.heap.size + 1 := by simp
  have hC1 := Kd.C_below hC (below_then hb hb.size b1)
  have hlz : (0 : Int) < (d.f1.length : Int) := by omega
  obtain ⟨ad, eA, p0, p1, p2⟩ := at_T37 hC1 (0 : Int) (by omega) hlz
  subst eA
  have p0 := (show _ = some (Value.bool (keyT d).f0) by simpa [Addr.add, keyT] using p0)
  have p1 := (show _ = some (Value.int .i64 (keyT d).f1) by simpa [Addr.add, keyT] using p1)
  have p2 := (show _ = some (Value.string (keyT d).f2) by simpa [Addr.add, keyT] using p2)
  have hpl := place_T p (keyT d) ds A c _ (blk_below hp b1) (oldK_C (Kd.C_below hO b1) (below_then hb hb.size b1)) (by omega) hf hs hk
  have hKd := Aside0.mk (k41_mkK we d hc0 hC)
  have hpu := Aside0.mk (putV_at ds d)
  have hpl1 := pre_len (keyT d) ds
  have HB1 := Aside0.mk b1
  have HKB := Aside0.mk kb
  have HP := Aside0.mk hp
  have HO := Aside0.mk hO
  have HZ1 := Aside0.mk hz1
  have hne : ¬ (d.f1.length : Int) = 0 := by omega
  have hneb : ((d.f1.length : Int) == 0) = false := beq_eq_false_iff_ne.2 hne
  clear b1 kb hp hO hb hC hf hs hk hC1 hz1
  go_enter Try.func43, Try.ntmps43
  go_wp2_with fail
  refine hpl.mono ?_
  rintro e wS ⟨rfl, hbS⟩
  have hbS0 := hbS
  have hbS := below_then HB1.out HB1.out.size hbS
  have HPS := Aside0.mk (blk_below HP.out hbS)
  have hkS := blk_below HKB.out hbS0
  have q0 := (blk_cell HPS.out 0).trans rfl
  have q1 := (blk_cell hkS 0).trans rfl
  have q2 := (blk_cell hkS 1).trans rfl
  have hpS : p < wS.heap.size := (Array.getElem?_eq_some_iff.1 HPS.out).1
  have hdS : w.heap.size < wS.heap.size := (Array.getElem?_eq_some_iff.1 hkS).1
  have HTK : ∀ w3, Below wS.heap.size wS w3 → Kd.C (oldK k41 we) w3 A ds.length ds := fun w3 hb3 => Kd.C_below HO.out (below_then hbS hbS.size hb3)
  generalize hm : (preOf keyT (keyT d) ds).length = m at *
  have hTake : ∀ w3, Below wS.heap.size wS w3 → Kd.C (oldK k41 we) w3 A m (ds.take m) := fun w3 hb3 => by
    have := Kd.C_take (HTK w3 hb3) hpl1
    rwa [List.length_take, Nat.min_eq_left hpl1] at this
  obtain ⟨jb, hjb⟩ : ∃ jb : Nat, jb = if hitV (keyT d) ds = true then m + 1 else m := ⟨_, rfl⟩
  rw [← hjb] at hpu
  have hjl : jb ≤ ds.length := by
    rw [hjb]
    split
    · rename_i h
      have : m ≠ ds.length := fun e => by rw [hit_end (hm.trans e)] at h; cases h
      omega
    · exact hpl1
  have hDrop : ∀ w3, Below wS.heap.size wS w3 → Kd.C (oldK k41 we) w3 (if c = jb then A else A.map (·.add (jb * 2))) (ds.length - jb) (ds.drop jb) := fun w3 hb3 => by
    have := Kd.C_drop (HTK w3 hb3) hjl hc
    rwa [List.length_drop] at this
  have HbS := Aside0.mk hbS
  have HTake := Aside0.mk hTake
  have HDrop := Aside0.mk hDrop
  have HQ1 := Aside0.mk q1
  clear hkS HTK hTake hDrop hm hbS hbS0
  have hz0 : (0 : Int) ≤ (m : Int) := by omega
  have hz1 : (m : Int) ≤ (ds.length : Int) := by omega
  have hz2 : (m : Int) ≤ (c : Int) := by omega
  have hz3 : (0 : Int) ≤ (jb : Int) := by omega
  have hz4 : (jb : Int) ≤ (ds.length : Int) := by omega
  have hz5 : (ds.length : Int) ≤ (c : Int) := by omega
  have hit : Aside0 (hitV (keyT d) ds = true → (m : Int) + 1 = (jb : Int)) := ⟨fun h => by rw [hjb, if_pos h]; omega⟩
  have hno : Aside0 (hitV (keyT d) ds = false → (m : Int) = (jb : Int)) := ⟨fun h => by rw [hjb, if_neg (by simp [h])]⟩
  clear hjb
  generalize hitV (keyT d) ds = hv at *
  cases hv with
  | true =>
    have hje := hit.out rfl
    have HJE := Aside0.mk hje
    clear hit hno hje
    go_wp2
    rw [HJE.out]
    have hTake := HTake.out
    have hDrop := HDrop.out
    refine start_ (n := 21) (S := fun w' => w'.cell? ⟨p, 0, none⟩ = some (.slice A ds.length c) ∧ w'.cell? ⟨w.heap.size, 0, none⟩ = some (.bool d.f0) ∧ w'.cell? ⟨w.heap.size, 1, none⟩ = some (.slice (some ad) d.f1.length c0) ∧ Aside0 (Below wS.heap.size wS w')) (ds := [20]) #[false, false, false, false, false, false, false, false, false, false, false, false, false, false, false, false, false, false, false, false, false] (by kernel_rfl) rfl rfl ⟨(by simpa using q0), (by simpa using q1), (by simpa using q2), ⟨below_drew1 (Below.refl _ _)⟩⟩ (fun hHeld => ?_)
    refine pure_ (i := 0) (N := some 25) (v := ?_) (a' := ?_) #[true, false, false, false, false, false, false, false, false, false, false, false, false, false, false, false, false, false, false, false, false] rfl rfl (by kernel_rfl) (fun _ _ _ h => h) (Or.inl ⟨by rfl, ?_⟩) ?_ ?_
    rotate_left
    · intro w'
      go_simp
      with_reducible rfl
    rotate_left
    · simp only [Act.put, List.setIfInBounds_toArray, List.set_cons_zero, List.set_cons_succ, i64_w, i32_w]
      rfl
    refine pure_ (i := 1) (N := some 26) (v := ?_) (a' := ?_) #[true, true, false, false, false, false, false, false, false, false, false, false, false, false, false, false, false, false, false, false, false] rfl rfl (by kernel_rfl) (fun _ _ _ h => h) (Or.inl ⟨by rfl, ?_⟩) ?_ ?_
    rotate_left
    · intro w'
      go_simp
      with_reducible rfl
    rotate_left
    · simp only [Act.put, List.setIfInBounds_toArray, List.set_cons_zero, List.set_cons_succ, i64_w, i32_w]
      rfl
    refine pure_ (i := 2) (N := some 27) (v := ?_) (a' := ?_) #[true, true, true, false, false, false, false, false, false, false, false, false, false, false, false, false, false, false, false, false, false] rfl rfl (by kernel_rfl) (fun _ _ _ h => h) (Or.inl ⟨by rfl, ?_⟩) ?_ ?_
    rotate_left
    · intro w'
      go_simp
      with_reducible rfl
    rotate_left
    · simp only [Act.put, List.setIfInBounds_toArray, List.set_cons_zero, List.set_cons_succ, i64_w, i32_w]
      rfl
    refine pure_ (i := 3) (N := some 28) (v := ?_) (a' := ?_) #[true, true, true, true, false, false, false, false, false, false, false, false, false, false, false, false, false, false, false, false, false] rfl rfl (by kernel_rfl) (fun _ _ _ h => h) (Or.inl ⟨by rfl, ?_⟩) ?_ ?_
    rotate_left
    · intro w'
      go_simp
      with_reducible rfl
    rotate_left
    · simp only [Act.put, List.setIfInBounds_toArray, List.set_cons_zero, List.set_cons_succ, i64_w, i32_w]
      rfl
    refine pure_ (i := 5) (N := some 30) (v := ?_) (a' := ?_) #[true, true, true, true, false, true, false, false, false, false, false, false, false, false, false, false, false, false, false, false, false] rfl rfl (by kernel_rfl) (fun _ _ _ h => h) (Or.inl ⟨by rfl, ?_⟩) ?_ ?_
    rotate_left
    · intro w'
      go_simp
      with_reducible rfl
    rotate_left
    · simp only [Act.put, List.setIfInBounds_toArray, List.set_cons_zero, List.set_cons_succ, i64_w, i32_w]
      rfl
    refine pure_ (i := 11) (N := some 36) (v := ?_) (a' := ?_) #[true, true, true, true, false, true, false, false, false, false, false, true, false, false, false, false, false, false, false, false, false] rfl rfl (by kernel_rfl) (fun _ _ _ h => h) (Or.inl ⟨by rfl, ?_⟩) ?_ ?_
    rotate_left
    · intro w'
      go_simp
      with_reducible rfl
    rotate_left
    · simp only [Act.put, List.setIfInBounds_toArray, List.set_cons_zero, List.set_cons_succ, i64_w, i32_w]
      rfl
    refine pure_ (i := 12) (N := some 37) (v := ?_) (a' := ?_) #[true, true, true, true, false, true, false, false, false, false, false, true, true, false, false, false, false, false, false, false, false] rfl rfl (by kernel_rfl) (fun _ _ _ h => h) (Or.inl ⟨by rfl, ?_⟩) ?_ ?_
    rotate_left
    · intro w'
      go_simp
      with_reducible rfl
    rotate_left
    · simp only [Act.put, List.setIfInBounds_toArray, List.set_cons_zero, List.set_cons_succ, i64_w, i32_w]
      rfl
    refine pure_ (i := 13) (N := some 38) (v := ?_) (a' := ?_) #[true, true, true, true, false, true, false, false, false, false, false, true, true, true, false, false, false, false, false, false, false] rfl rfl (by kernel_rfl) (fun _ _ _ h => h) (Or.inl ⟨by rfl, ?_⟩) ?_ ?_
    rotate_left
    · intro w'
      go_simp
      with_reducible rfl
    rotate_left
    · simp only [Act.put, List.setIfInBounds_toArray, List.set_cons_zero, List.set_cons_succ, i64_w, i32_w]
      rfl
    refine pure_ (i := 15) (N := some 40) (v := ?_) (a' := ?_) #[true, true, true, true, false, true, false, false, false, false, false, true, true, true, false, true, false, false, false, false, false] rfl rfl (by kernel_rfl) (fun _ _ _ h => h) (Or.inl ⟨by rfl, ?_⟩) ?_ ?_
    rotate_left
    · intro w'
      go_simp
      with_reducible rfl
    rotate_left
    · simp only [Act.put, List.setIfInBounds_toArray, List.set_cons_zero, List.set_cons_succ, i64_w, i32_w]
      rfl
    refine take_ (i := 4) (N := some 29) (v := ?_) (a' := ?_) #[true, true, true, true, true, true, false, false, false, false, false, true, true, true, false, true, false, false, false, false, false] rfl rfl (by kernel_rfl) (fun _ _ _ h => h) (Or.inl ⟨by rfl, ?_⟩) hHeld ?_ ?_
    rotate_left
    · rintro w' ⟨s0, s1, s2, s3⟩
      go_simp
      with_reducible rfl
    rotate_left
    · simp only [Act.put, List.setIfInBounds_toArray, List.set_cons_zero, List.set_cons_succ, i64_w, i32_w]
      rfl
    refine pure_ (i := 6) (N := some 31) (v := ?_) (a' := ?_) #[true, true, true, true, true, true, true, false, false, false, false, true, true, true, false, true, false, false, false, false, false] rfl rfl (by kernel_rfl) (fun _ _ _ h => h) (Or.inl ⟨by rfl, ?_⟩) ?_ ?_
    rotate_left
    · intro w'
      go_simp
      with_reducible rfl
    rotate_left
    · simp only [Act.put, List.setIfInBounds_toArray, List.set_cons_zero, List.set_cons_succ, i64_w, i32_w]
      rfl
    refine take_ (i := 8) (N := some 33) (v := ?_) (a' := ?_) #[true, true, true, true, true, true, true, false, true, false, false, true, true, true, false, true, false, false, false, false, false] rfl rfl (by kernel_rfl) (fun _ _ _ h => h) (Or.inl ⟨by rfl, ?_⟩) hHeld ?_ ?_
    rotate_left
    · rintro w' ⟨s0, s1, s2, s3⟩
      go_simp
      with_reducible rfl
    rotate_left
    · simp only [Act.put, List.setIfInBounds_toArray, List.set_cons_zero, List.set_cons_succ, i64_w, i32_w]
      rfl
    refine take_ (i := 14) (N := some 39) (v := ?_) (a' := ?_) #[true, true, true, true, true, true, true, false, true, false, false, true, true, true, true, true, false, false, false, false, false] rfl rfl (by kernel_rfl) (fun _ _ _ h => h) (Or.inl ⟨by rfl, ?_⟩) hHeld ?_ ?_
    rotate_left
    · rintro w' ⟨s0, s1, s2, s3⟩
      go_simp
      with_reducible rfl
    rotate_left
    · simp only [Act.put, List.setIfInBounds_toArray, List.set_cons_zero, List.set_cons_succ, i64_w, i32_w]
      rfl
    refine pure_ (i := 16) (N := some 41) (v := ?_) (a' := ?_) #[true, true, true, true, true, true, true, false, true, false, false, true, true, true, true, true, true, false, false, false, false] rfl rfl (by kernel_rfl) (fun _ _ _ h => h) (Or.inl ⟨by rfl, ?_⟩) ?_ ?_
    rotate_left
    · intro w'
      go_simp
      with_reducible rfl
    rotate_left
    · simp only [Act.put, List.setIfInBounds_toArray, List.set_cons_zero, List.set_cons_succ, i64_w, i32_w]
      rfl
    refine join_ (σ := Value × Nat) 5 #[true, true, true, true, true, true, true, true, true, true, false, true, true, true, true, true, true, false, false, false, false] (fun s_ => [(32, s_.1), (34, .slice (some ⟨s_.2, 0, none⟩) 1 1)]) (fun s_ w' => (w'.cell? ⟨p, 0, none⟩ = some (.slice A ds.length c) ∧ w'.cell? ⟨w.heap.size, 0, none⟩ = some (.bool d.f0) ∧ w'.cell? ⟨w.heap.size, 1, none⟩ = some (.slice (some ad) d.f1.length c0) ∧ Aside0 (Below wS.heap.size wS w')) ∧ Aside0 (Kd.R (oldK k41 we) 41 w' wS.heap.size (fun _ => True) s_.1 (ds.take m)) ∧ Aside0 (w'.heap[s_.2]? = some (.cells #[.bool d.f0, .slice (some ad) d.f1.length c0] 41 (0, 0))) ∧ Aside0 (some s_.2 ≠ s_.1.ownBlock)) ?_ ?_
    rotate_left
    · intro hCont
      refine two_ (i := 7) (j := 9) (Ni := some 32) (Nj := some 34) #[true, true, true, true, true, true, true, true, true, false, false, true, true, true, true, true, true, false, false, false, false] #[true, true, true, true, true, true, true, false, true, true, false, true, true, true, true, true, true, false, false, false, false] rfl rfl rfl rfl (by kernel_rfl) (by decide) (by decide) (fun K hK => ?_) (fun K hK => ?_)
      · skip
        refine Kd.R_append_rows_step (oldK k41 we) (w0 := wS) wS.heap.size (by rfl) (.const (.slice none 0 0)) (.tmp 31) 25 41 (.agg #[(.bool false), (.slice none 0 0)]) 32 rfl Try.underlying25 info41 rfl (show 0 < 2 by decide) (by omega) (.slice none 0 0) ([] : List S41) (ds.take m) _ _ _ (fun _ => True) (fun _ => False) rfl rfl ?aO ?aR (fun _ _ h => h) (fun _ h => h.elim) (fun _ _ => trivial) hHeld.2.2.2.out hHeld.2.2.2.out.size ?aL ?_
        (case aO => exact Kd.R_nil _ _ _ _ _)
        (case aR => exact hTake _ hHeld.2.2.2.out)
        (case aL => simp only [List.length_nil]; omega)
        intro v1 w3 ho hb hg hat
        have HS0_ := cell_grown hg hHeld.1 (by simp [Value.ownBlock])
        have HS1_ := cell_grown hg hHeld.2.1 (by simp [Value.ownBlock])
        have HS2_ := cell_grown hg hHeld.2.2.1 (by simp [Value.ownBlock])
        have HO1 := Aside0.mk ho
        clear ho hg hat
        refine hK.out _ _ ⟨HS0_, HS1_, HS2_, ⟨hb⟩⟩ (fun hHeld => ?_)
        clear hK K
        refine norm_ (a' := ?_) ?_ ?_
        rotate_left
        · show Act.put _ (some 32) _ = _
          simp only [Act.put, List.setIfInBounds_toArray, List.set_cons_zero, List.set_cons_succ, i64_w, i32_w]
          rfl
        refine one_ (i := 9) (N := some 34) #[true, true, true, true, true, true, true, true, true, true, false, true, true, true, true, true, true, false, false, false, false] rfl rfl (by kernel_rfl) (by decide) (fun K hK => ?_)
        refine value_ (w1 := ?_) (v := ?_) (by rfl) rfl ?_ ?_
        rotate_left 2
        · go_simp
          constructor
          · rfl
          · rfl
        have HBX1 := Aside0.mk (heap_alloc_new w3 (.cells #[.bool d.f0, .slice (some ad) d.f1.length c0] 41))
        have HNE1 : Aside0 (some w3.heap.size ≠ v1.ownBlock) := ⟨ne_of_lt HO1.out⟩
        have HO2 := Aside0.mk (Kd.R_below HO1.out (below_alloc (Below.refl _ _) (.cells #[.bool d.f0, .slice (some ad) d.f1.length c0] 41)))
        refine hK.out _ _ ⟨(cell_alloc1 hHeld.1), (cell_alloc1 hHeld.2.1), (cell_alloc1 hHeld.2.2.1), ⟨below_alloc hHeld.2.2.2.out _⟩⟩ (fun hHeld => ?_)
        clear hK K
        refine norm_ (a' := ?_) ?_ ?_
        rotate_left
        · show Act.put _ (some 34) _ = _
          simp only [Act.put, List.setIfInBounds_toArray, List.set_cons_zero, List.set_cons_succ, i64_w, i32_w]
          rfl
        exact norm_ (by simp only [putAll, Act.put, List.setIfInBounds_toArray, List.set_cons_zero, List.set_cons_succ]) (hCont (v1, w3.heap.size) _ ⟨hHeld, HO2, HBX1, HNE1⟩)
      · skip
        refine value_ (w1 := ?_) (v := ?_) (by rfl) rfl ?_ ?_
        rotate_left 2
        · go_simp
          constructor
          · rfl
          · rfl
        have HBX := Aside0.mk (heap_alloc_new wS.drew (.cells #[.bool d.f0, .slice (some ad) d.f1.length c0] 41))
        refine hK.out _ _ ⟨(cell_alloc1 hHeld.1), (cell_alloc1 hHeld.2.1), (cell_alloc1 hHeld.2.2.1), ⟨below_alloc hHeld.2.2.2.out _⟩⟩ (fun hHeld => ?_)
        clear hK K
        refine norm_ (a' := ?_) ?_ ?_
        rotate_left
        · show Act.put _ (some 34) _ = _
          simp only [Act.put, List.setIfInBounds_toArray, List.set_cons_zero, List.set_cons_succ, i64_w, i32_w]
          rfl
        refine one_ (i := 7) (N := some 32) #[true, true, true, true, true, true, true, true, true, true, false, true, true, true, true, true, true, false, false, false, false] rfl rfl (by kernel_rfl) (by decide) (fun K hK => ?_)
        refine Kd.R_append_rows_step (oldK k41 we) (w0 := wS) wS.heap.size (by rfl) (.const (.slice none 0 0)) (.tmp 31) 25 41 (.agg #[(.bool false), (.slice none 0 0)]) 32 rfl Try.underlying25 info41 rfl (show 0 < 2 by decide) (by omega) (.slice none 0 0) ([] : List S41) (ds.take m) _ _ _ (fun _ => True) (fun _ => False) rfl rfl ?aO ?aR (fun _ _ h => h) (fun _ h => h.elim) (fun _ _ => trivial) hHeld.2.2.2.out hHeld.2.2.2.out.size ?aL ?_
        (case aO => exact Kd.R_nil _ _ _ _ _)
        (case aR => exact hTake _ hHeld.2.2.2.out)
        (case aL => simp only [List.length_nil]; omega)
        intro v1 w3 ho hb hg hat
        have HS0_ := cell_grown hg hHeld.1 (by simp [Value.ownBlock])
        have HS1_ := cell_grown hg hHeld.2.1 (by simp [Value.ownBlock])
        have HS2_ := cell_grown hg hHeld.2.2.1 (by simp [Value.ownBlock])
        have hbx := HBX.out
        have HBX1 := Aside0.mk ((hg.block _ (Array.getElem?_eq_some_iff.1 hbx).1 (by simp [Value.ownBlock])).trans hbx)
        have HNE1 : Aside0 (some wS.heap.size ≠ v1.ownBlock) := ⟨ne_of_at hat (by simp [Value.ownBlock]) (by simp)⟩
        clear hbx
        have HO1 := Aside0.mk ho
        clear ho hg hat
        refine hK.out _ _ ⟨HS0_, HS1_, HS2_, ⟨hb⟩⟩ (fun hHeld => ?_)
        clear hK K
        refine norm_ (a' := ?_) ?_ ?_
        rotate_left
        · show Act.put _ (some 32) _ = _
          simp only [Act.put, List.setIfInBounds_toArray, List.set_cons_zero, List.set_cons_succ, i64_w, i32_w]
          rfl
        exact norm_ (by simp only [putAll, Act.put, List.setIfInBounds_toArray, List.set_cons_zero, List.set_cons_succ]) (hCont (v1, wS.heap.size) _ ⟨hHeld, HO1, HBX1, HNE1⟩)
    rintro ⟨v1, g⟩ w4 ⟨hHeld, HO, HX, HN⟩
    dsimp only at hHeld HO HX HN
    refine norm_ (a' := ?_) ?_ ?_
    rotate_left
    · simp only [putAll, Act.put, List.setIfInBounds_toArray, List.set_cons_zero, List.set_cons_succ]
      rfl
    refine one_ (i := 10) (N := some 35) #[true, true, true, true, true, true, true, true, true, true, true, true, true, true, true, true, true, false, false, false, false] rfl rfl (by kernel_rfl) (by decide) (fun K hK => ?_)
    refine Kd.R_append_rows_step (oldK k41 we) (w0 := wS) wS.heap.size (by rfl) (.tmp 32) (.tmp 34) 25 41 (.agg #[(.bool false), (.slice none 0 0)]) 32 rfl Try.underlying25 info41 rfl (show 0 < 2 by decide) (by omega) v1 (ds.take m) [d] _ _ _ (fun _ => True) (fun _ => False) rfl rfl ?aO ?aR (fun _ _ h => h) (fun _ h => h.elim) (fun _ _ => trivial) hHeld.2.2.2.out hHeld.2.2.2.out.size ?aL ?_
    (case aO => exact HO.out)
    (case aR => exact old_one HX.out hKd.out)
    (case aL => simp only [List.length_take]; omega)
    intro v5 w5 ho hb hg hat
    have HS0_ := cell_grown hg hHeld.1 (old_ne HO.out hpS)
    have HS1_ := cell_grown hg hHeld.2.1 (old_ne HO.out hdS)
    have HS2_ := cell_grown hg hHeld.2.2.1 (old_ne HO.out hdS)
    have HO5 := Aside0.mk ho
    clear ho hg hat
    refine hK.out _ _ ⟨HS0_, HS1_, HS2_, ⟨hb⟩⟩ (fun hHeld => ?_)
    clear hK K
    refine norm_ (a' := ?_) ?_ ?_
    rotate_left
    · show Act.put _ (some 35) _ = _
      simp only [Act.put, List.setIfInBounds_toArray, List.set_cons_zero, List.set_cons_succ, i64_w, i32_w]
      rfl
    refine one_ (i := 17) (N := some 42) #[true, true, true, true, true, true, true, true, true, true, true, true, true, true, true, true, true, true, false, false, false] rfl rfl (by kernel_rfl) (by decide) (fun K hK => ?_)
    refine Kd.R_append_rows_step (oldK k41 we) (w0 := wS) wS.heap.size (by rfl) (.tmp 35) (.tmp 41) 25 41 (.agg #[(.bool false), (.slice none 0 0)]) 32 rfl Try.underlying25 info41 rfl (show 0 < 2 by decide) (by omega) v5 (ds.take m ++ [d]) (ds.drop jb) _ _ _ (fun _ => True) (fun _ => False) rfl rfl ?aO ?aR (fun _ _ h => h) (fun _ h => h.elim) (fun _ _ => trivial) hHeld.2.2.2.out hHeld.2.2.2.out.size ?aL ?_
    (case aO => exact HO5.out)
    (case aR => exact hDrop _ hHeld.2.2.2.out)
    (case aL => simp only [List.length_append, List.length_take, List.length_singleton]; omega)
    intro v7 w7 ho hb hg hat
    rw [hpu.out] at ho
    obtain ⟨A7, c7, hv7⟩ := Kd.R_slice ho
    subst hv7
    have HS0_ := cell_grown hg hHeld.1 (old_ne HO5.out hpS)
    have HS1_ := cell_grown hg hHeld.2.1 (old_ne HO5.out hdS)
    have HS2_ := cell_grown hg hHeld.2.2.1 (old_ne HO5.out hdS)
    have HO7 := Aside0.mk ho
    clear ho hg hat
    have f7 : w7.frozen? ⟨p, 0, none⟩ = false := blk_frozen (blk_below HPS.out hb) 0
    have HB7 := Aside0.mk hb
    refine hK.out _ _ ⟨HS0_, HS1_, HS2_, ⟨hb⟩⟩ (fun hHeld => ?_)
    clear hK K
    refine norm_ (a' := ?_) ?_ ?_
    rotate_left
    · show Act.put _ (some 42) _ = _
      simp only [Act.put, List.setIfInBounds_toArray, List.set_cons_zero, List.set_cons_succ, i64_w, i32_w]
      rfl
    refine pure_ (i := 18) (N := some 43) (v := ?_) (a' := ?_) #[true, true, true, true, true, true, true, true, true, true, true, true, true, true, true, true, true, true, true, false, false] rfl rfl (by kernel_rfl) (fun _ _ _ h => h) (Or.inl ⟨by rfl, ?_⟩) ?_ ?_
    rotate_left
    · intro w'
      go_simp
      with_reducible rfl
    rotate_left
    · simp only [Act.put, List.setIfInBounds_toArray, List.set_cons_zero, List.set_cons_succ, i64_w, i32_w]
      rfl
    refine pure_ (i := 19) (N := some 44) (v := ?_) (a' := ?_) #[true, true, true, true, true, true, true, true, true, true, true, true, true, true, true, true, true, true, true, true, false] rfl rfl (by kernel_rfl) (fun _ _ _ h => h) (Or.inl ⟨by rfl, ?_⟩) ?_ ?_
    rotate_left
    · intro w'
      go_simp
      with_reducible rfl
    rotate_left
    · simp only [Act.put, List.setIfInBounds_toArray, List.set_cons_zero, List.set_cons_succ, i64_w, i32_w]
      rfl
    refine last_ (i := 20) (N := none) #[true, true, true, true, true, true, true, true, true, true, true, true, true, true, true, true, true, true, true, true, true] rfl rfl (by kernel_rfl) (by decide) (fun K hK => ?_)
    refine skip_ (w1 := ?_) (by rfl) rfl ?_ ?_
    rotate_left
    · go_simp
      rfl
    refine hK.out _ _ ?_
    clear hK K
    refine done_ (by kernel_rfl) ?_

    go_wp2
    all_goals
      go_ret
      exact ⟨rfl, fin_put HbS.out HPS.out HB7.out HO7.out rfl⟩
  | false =>
    have hje : m = jb := by have := hno.out rfl; omega
    subst hje
    clear hit hno
    go_wp2
    have hTake := HTake.out
    have hDrop := HDrop.out
    refine start_ (n := 21) (S := fun w' => w'.cell? ⟨p, 0, none⟩ = some (.slice A ds.length c) ∧ w'.cell? ⟨w.heap.size, 0, none⟩ = some (.bool d.f0) ∧ w'.cell? ⟨w.heap.size, 1, none⟩ = some (.slice (some ad) d.f1.length c0) ∧ Aside0 (Below wS.heap.size wS w')) (ds := [20]) #[false, false, false, false, false, false, false, false, false, false, false, false, false, false, false, false, false, false, false, false, false] (by kernel_rfl) rfl rfl ⟨(by simpa using q0), (by simpa using q1), (by simpa using q2), ⟨below_drew1 (Below.refl _ _)⟩⟩ (fun hHeld => ?_)
    refine pure_ (i := 0) (N := some 25) (v := ?_) (a' := ?_) #[true, false, false, false, false, false, false, false, false, false, false, false, false, false, false, false, false, false, false, false, false] rfl rfl (by kernel_rfl) (fun _ _ _ h => h) (Or.inl ⟨by rfl, ?_⟩) ?_ ?_
    rotate_left
    · intro w'
      go_simp
      with_reducible rfl
    rotate_left
    · simp only [Act.put, List.setIfInBounds_toArray, List.set_cons_zero, List.set_cons_succ, i64_w, i32_w]
      rfl
    refine pure_ (i := 1) (N := some 26) (v := ?_) (a' := ?_) #[true, true, false, false, false, false, false, false, false, false, false, false, false, false, false, false, false, false, false, false, false] rfl rfl (by kernel_rfl) (fun _ _ _ h => h) (Or.inl ⟨by rfl, ?_⟩) ?_ ?_
    rotate_left
    · intro w'
      go_simp
      with_reducible rfl
    rotate_left
    · simp only [Act.put, List.setIfInBounds_toArray, List.set_cons_zero, List.set_cons_succ, i64_w, i32_w]
      rfl
    refine pure_ (i := 2) (N := some 27) (v := ?_) (a' := ?_) #[true, true, true, false, false, false, false, false, false, false, false, false, false, false, false, false, false, false, false, false, false] rfl rfl (by kernel_rfl) (fun _ _ _ h => h) (Or.inl ⟨by rfl, ?_⟩) ?_ ?_
    rotate_left
    · intro w'
      go_simp
      with_reducible rfl
    rotate_left
    · simp only [Act.put, List.setIfInBounds_toArray, List.set_cons_zero, List.set_cons_succ, i64_w, i32_w]
      rfl
    refine pure_ (i := 3) (N := some 28) (v := ?_) (a' := ?_) #[true, true, true, true, false, false, false, false, false, false, false, false, false, false, false, false, false, false, false, false, false] rfl rfl (by kernel_rfl) (fun _ _ _ h => h) (Or.inl ⟨by rfl, ?_⟩) ?_ ?_
    rotate_left
    · intro w'
      go_simp
      with_reducible rfl
    rotate_left
    · simp only [Act.put, List.setIfInBounds_toArray, List.set_cons_zero, List.set_cons_succ, i64_w, i32_w]
      rfl
    refine pure_ (i := 5) (N := some 30) (v := ?_) (a' := ?_) #[true, true, true, true, false, true, false, false, false, false, false, false, false, false, false, false, false, false, false, false, false] rfl rfl (by kernel_rfl) (fun _ _ _ h => h) (Or.inl ⟨by rfl, ?_⟩) ?_ ?_
    rotate_left
    · intro w'
      go_simp
      with_reducible rfl
    rotate_left
    · simp only [Act.put, List.setIfInBounds_toArray, List.set_cons_zero, List.set_cons_succ, i64_w, i32_w]
      rfl
    refine pure_ (i := 11) (N := some 36) (v := ?_) (a' := ?_) #[true, true, true, true, false, true, false, false, false, false, false, true, false, false, false, false, false, false, false, false, false] rfl rfl (by kernel_rfl) (fun _ _ _ h => h) (Or.inl ⟨by rfl, ?_⟩) ?_ ?_
    rotate_left
    · intro w'
      go_simp
      with_reducible rfl
    rotate_left
    · simp only [Act.put, List.setIfInBounds_toArray, List.set_cons_zero, List.set_cons_succ, i64_w, i32_w]
      rfl
    refine pure_ (i := 12) (N := some 37) (v := ?_) (a' := ?_) #[true, true, true, true, false, true, false, false, false, false, false, true, true, false, false, false, false, false, false, false, false] rfl rfl (by kernel_rfl) (fun _ _ _ h => h) (Or.inl ⟨by rfl, ?_⟩) ?_ ?_
    rotate_left
    · intro w'
      go_simp
      with_reducible rfl
    rotate_left
    · simp only [Act.put, List.setIfInBounds_toArray, List.set_cons_zero, List.set_cons_succ, i64_w, i32_w]
      rfl
    refine pure_ (i := 13) (N := some 38) (v := ?_) (a' := ?_) #[true, true, true, true, false, true, false, false, false, false, false, true, true, true, false, false, false, false, false, false, false] rfl rfl (by kernel_rfl) (fun _ _ _ h => h) (Or.inl ⟨by rfl, ?_⟩) ?_ ?_
    rotate_left
    · intro w'
      go_simp
      with_reducible rfl
    rotate_left
    · simp only [Act.put, List.setIfInBounds_toArray, List.set_cons_zero, List.set_cons_succ, i64_w, i32_w]
      rfl
    refine pure_ (i := 15) (N := some 40) (v := ?_) (a' := ?_) #[true, true, true, true, false, true, false, false, false, false, false, true, true, true, false, true, false, false, false, false, false] rfl rfl (by kernel_rfl) (fun _ _ _ h => h) (Or.inl ⟨by rfl, ?_⟩) ?_ ?_
    rotate_left
    · intro w'
      go_simp
      with_reducible rfl
    rotate_left
    · simp only [Act.put, List.setIfInBounds_toArray, List.set_cons_zero, List.set_cons_succ, i64_w, i32_w]
      rfl
    refine take_ (i := 4) (N := some 29) (v := ?_) (a' := ?_) #[true, true, true, true, true, true, false, false, false, false, false, true, true, true, false, true, false, false, false, false, false] rfl rfl (by kernel_rfl) (fun _ _ _ h => h) (Or.inl ⟨by rfl, ?_⟩) hHeld ?_ ?_
    rotate_left
    · rintro w' ⟨s0, s1, s2, s3⟩
      go_simp
      with_reducible rfl
    rotate_left
    · simp only [Act.put, List.setIfInBounds_toArray, List.set_cons_zero, List.set_cons_succ, i64_w, i32_w]
      rfl
    refine pure_ (i := 6) (N := some 31) (v := ?_) (a' := ?_) #[true, true, true, true, true, true, true, false, false, false, false, true, true, true, false, true, false, false, false, false, false] rfl rfl (by kernel_rfl) (fun _ _ _ h => h) (Or.inl ⟨by rfl, ?_⟩) ?_ ?_
    rotate_left
    · intro w'
      go_simp
      with_reducible rfl
    rotate_left
    · simp only [Act.put, List.setIfInBounds_toArray, List.set_cons_zero, List.set_cons_succ, i64_w, i32_w]
      rfl
    refine take_ (i := 8) (N := some 33) (v := ?_) (a' := ?_) #[true, true, true, true, true, true, true, false, true, false, false, true, true, true, false, true, false, false, false, false, false] rfl rfl (by kernel_rfl) (fun _ _ _ h => h) (Or.inl ⟨by rfl, ?_⟩) hHeld ?_ ?_
    rotate_left
    · rintro w' ⟨s0, s1, s2, s3⟩
      go_simp
      with_reducible rfl
    rotate_left
    · simp only [Act.put, List.setIfInBounds_toArray, List.set_cons_zero, List.set_cons_succ, i64_w, i32_w]
      rfl
    refine take_ (i := 14) (N := some 39) (v := ?_) (a' := ?_) #[true, true, true, true, true, true, true, false, true, false, false, true, true, true, true, true, false, false, false, false, false] rfl rfl (by kernel_rfl) (fun _ _ _ h => h) (Or.inl ⟨by rfl, ?_⟩) hHeld ?_ ?_
    rotate_left
    · rintro w' ⟨s0, s1, s2, s3⟩
      go_simp
      with_reducible rfl
    rotate_left
    · simp only [Act.put, List.setIfInBounds_toArray, List.set_cons_zero, List.set_cons_succ, i64_w, i32_w]
      rfl
    refine pure_ (i := 16) (N := some 41) (v := ?_) (a' := ?_) #[true, true, true, true, true, true, true, false, true, false, false, true, true, true, true, true, true, false, false, false, false] rfl rfl (by kernel_rfl) (fun _ _ _ h => h) (Or.inl ⟨by rfl, ?_⟩) ?_ ?_
    rotate_left
    · intro w'
      go_simp
      with_reducible rfl
    rotate_left
    · simp only [Act.put, List.setIfInBounds_toArray, List.set_cons_zero, List.set_cons_succ, i64_w, i32_w]
      rfl
    refine join_ (σ := Value × Nat) 5 #[true, true, true, true, true, true, true, true, true, true, false, true, true, true, true, true, true, false, false, false, false] (fun s_ => [(32, s_.1), (34, .slice (some ⟨s_.2, 0, none⟩) 1 1)]) (fun s_ w' => (w'.cell? ⟨p, 0, none⟩ = some (.slice A ds.length c) ∧ w'.cell? ⟨w.heap.size, 0, none⟩ = some (.bool d.f0) ∧ w'.cell? ⟨w.heap.size, 1, none⟩ = some (.slice (some ad) d.f1.length c0) ∧ Aside0 (Below wS.heap.size wS w')) ∧ Aside0 (Kd.R (oldK k41 we) 41 w' wS.heap.size (fun _ => True) s_.1 (ds.take m)) ∧ Aside0 (w'.heap[s_.2]? = some (.cells #[.bool d.f0, .slice (some ad) d.f1.length c0] 41 (0, 0))) ∧ Aside0 (some s_.2 ≠ s_.1.ownBlock)) ?_ ?_
    rotate_left
    · intro hCont
      refine two_ (i := 7) (j := 9) (Ni := some 32) (Nj := some 34) #[true, true, true, true, true, true, true, true, true, false, false, true, true, true, true, true, true, false, false, false, false] #[true, true, true, true, true, true, true, false, true, true, false, true, true, true, true, true, true, false, false, false, false] rfl rfl rfl rfl (by kernel_rfl) (by decide) (by decide) (fun K hK => ?_) (fun K hK => ?_)
      · skip
        refine Kd.R_append_rows_step (oldK k41 we) (w0 := wS) wS.heap.size (by rfl) (.const (.slice none 0 0)) (.tmp 31) 25 41 (.agg #[(.bool false), (.slice none 0 0)]) 32 rfl Try.underlying25 info41 rfl (show 0 < 2 by decide) (by omega) (.slice none 0 0) ([] : List S41) (ds.take m) _ _ _ (fun _ => True) (fun _ => False) rfl rfl ?aO ?aR (fun _ _ h => h) (fun _ h => h.elim) (fun _ _ => trivial) hHeld.2.2.2.out hHeld.2.2.2.out.size ?aL ?_
        (case aO => exact Kd.R_nil _ _ _ _ _)
        (case aR => exact hTake _ hHeld.2.2.2.out)
        (case aL => simp only [List.length_nil]; omega)
        intro v1 w3 ho hb hg hat
        have HS0_ := cell_grown hg hHeld.1 (by simp [Value.ownBlock])
        have HS1_ := cell_grown hg hHeld.2.1 (by simp [Value.ownBlock])
        have HS2_ := cell_grown hg hHeld.2.2.1 (by simp [Value.ownBlock])
        have HO1 := Aside0.mk ho
        clear ho hg hat
        refine hK.out _ _ ⟨HS0_, HS1_, HS2_, ⟨hb⟩⟩ (fun hHeld => ?_)
        clear hK K
        refine norm_ (a' := ?_) ?_ ?_
        rotate_left
        · show Act.put _ (some 32) _ = _
          simp only [Act.put, List.setIfInBounds_toArray, List.set_cons_zero, List.set_cons_succ, i64_w, i32_w]
          rfl
        refine one_ (i := 9) (N := some 34) #[true, true, true, true, true, true, true, true, true, true, false, true, true, true, true, true, true, false, false, false, false] rfl rfl (by kernel_rfl) (by decide) (fun K hK => ?_)
        refine value_ (w1 := ?_) (v := ?_) (by rfl) rfl ?_ ?_
        rotate_left 2
        · go_simp
          constructor
          · rfl
          · rfl
        have HBX1 := Aside0.mk (heap_alloc_new w3 (.cells #[.bool d.f0, .slice (some ad) d.f1.length c0] 41))
        have HNE1 : Aside0 (some w3.heap.size ≠ v1.ownBlock) := ⟨ne_of_lt HO1.out⟩
        have HO2 := Aside0.mk (Kd.R_below HO1.out (below_alloc (Below.refl _ _) (.cells #[.bool d.f0, .slice (some ad) d.f1.length c0] 41)))
        refine hK.out _ _ ⟨(cell_alloc1 hHeld.1), (cell_alloc1 hHeld.2.1), (cell_alloc1 hHeld.2.2.1), ⟨below_alloc hHeld.2.2.2.out _⟩⟩ (fun hHeld => ?_)
        clear hK K
        refine norm_ (a' := ?_) ?_ ?_
        rotate_left
        · show Act.put _ (some 34) _ = _
          simp only [Act.put, List.setIfInBounds_toArray, List.set_cons_zero, List.set_cons_succ, i64_w, i32_w]
          rfl
        exact norm_ (by simp only [putAll, Act.put, List.setIfInBounds_toArray, List.set_cons_zero, List.set_cons_succ]) (hCont (v1, w3.heap.size) _ ⟨hHeld, HO2, HBX1, HNE1⟩)
      · skip
        refine value_ (w1 := ?_) (v := ?_) (by rfl) rfl ?_ ?_
        rotate_left 2
        · go_simp
          constructor
          · rfl
          · rfl
        have HBX := Aside0.mk (heap_alloc_new wS.drew (.cells #[.bool d.f0, .slice (some ad) d.f1.length c0] 41))
        refine hK.out _ _ ⟨(cell_alloc1 hHeld.1), (cell_alloc1 hHeld.2.1), (cell_alloc1 hHeld.2.2.1), ⟨below_alloc hHeld.2.2.2.out _⟩⟩ (fun hHeld => ?_)
        clear hK K
        refine norm_ (a' := ?_) ?_ ?_
        rotate_left
        · show Act.put _ (some 34) _ = _
          simp only [Act.put, List.setIfInBounds_toArray, List.set_cons_zero, List.set_cons_succ, i64_w, i32_w]
          rfl
        refine one_ (i := 7) (N := some 32) #[true, true, true, true, true, true, true, true, true, true, false, true, true, true, true, true, true, false, false, false, false] rfl rfl (by kernel_rfl) (by decide) (fun K hK => ?_)
        refine Kd.R_append_rows_step (oldK k41 we) (w0 := wS) wS.heap.size (by rfl) (.const (.slice none 0 0)) (.tmp 31) 25 41 (.agg #[(.bool false), (.slice none 0 0)]) 32 rfl Try.underlying25 info41 rfl (show 0 < 2 by decide) (by omega) (.slice none 0 0) ([] : List S41) (ds.take m) _ _ _ (fun _ => True) (fun _ => False) rfl rfl ?aO ?aR (fun _ _ h => h) (fun _ h => h.elim) (fun _ _ => trivial) hHeld.2.2.2.out hHeld.2.2.2.out.size ?aL ?_
        (case aO => exact Kd.R_nil _ _ _ _ _)
        (case aR => exact hTake _ hHeld.2.2.2.out)
        (case aL => simp only [List.length_nil]; omega)
        intro v1 w3 ho hb hg hat
        have HS0_ := cell_grown hg hHeld.1 (by simp [Value.ownBlock])
        have HS1_ := cell_grown hg hHeld.2.1 (by simp [Value.ownBlock])
        have HS2_ := cell_grown hg hHeld.2.2.1 (by simp [Value.ownBlock])
        have hbx := HBX.out
        have HBX1 := Aside0.mk ((hg.block _ (Array.getElem?_eq_some_iff.1 hbx).1 (by simp [Value.ownBlock])).trans hbx)
        have HNE1 : Aside0 (some wS.heap.size ≠ v1.ownBlock) := ⟨ne_of_at hat (by simp [Value.ownBlock]) (by simp)⟩
        clear hbx
        have HO1 := Aside0.mk ho
        clear ho hg hat
        refine hK.out _ _ ⟨HS0_, HS1_, HS2_, ⟨hb⟩⟩ (fun hHeld => ?_)
        clear hK K
        refine norm_ (a' := ?_) ?_ ?_
        rotate_left
        · show Act.put _ (some 32) _ = _
          simp only [Act.put, List.setIfInBounds_toArray, List.set_cons_zero, List.set_cons_succ, i64_w, i32_w]
          rfl
        exact norm_ (by simp only [putAll, Act.put, List.setIfInBounds_toArray, List.set_cons_zero, List.set_cons_succ]) (hCont (v1, wS.heap.size) _ ⟨hHeld, HO1, HBX1, HNE1⟩)
    rintro ⟨v1, g⟩ w4 ⟨hHeld, HO, HX, HN⟩
    dsimp only at hHeld HO HX HN
    refine norm_ (a' := ?_) ?_ ?_
    rotate_left
    · simp only [putAll, Act.put, List.setIfInBounds_toArray, List.set_cons_zero, List.set_cons_succ]
      rfl
    refine one_ (i := 10) (N := some 35) #[true, true, true, true, true, true, true, true, true, true, true, true, true, true, true, true, true, false, false, false, false] rfl rfl (by kernel_rfl) (by decide) (fun K hK => ?_)
    refine Kd.R_append_rows_step (oldK k41 we) (w0 := wS) wS.heap.size (by rfl) (.tmp 32) (.tmp 34) 25 41 (.agg #[(.bool false), (.slice none 0 0)]) 32 rfl Try.underlying25 info41 rfl (show 0 < 2 by decide) (by omega) v1 (ds.take m) [d] _ _ _ (fun _ => True) (fun _ => False) rfl rfl ?aO ?aR (fun _ _ h => h) (fun _ h => h.elim) (fun _ _ => trivial) hHeld.2.2.2.out hHeld.2.2.2.out.size ?aL ?_
    (case aO => exact HO.out)
    (case aR => exact old_one HX.out hKd.out)
    (case aL => simp only [List.length_take]; omega)
    intro v5 w5 ho hb hg hat
    have HS0_ := cell_grown hg hHeld.1 (old_ne HO.out hpS)
    have HS1_ := cell_grown hg hHeld.2.1 (old_ne HO.out hdS)
    have HS2_ := cell_grown hg hHeld.2.2.1 (old_ne HO.out hdS)
    have HO5 := Aside0.mk ho
    clear ho hg hat
    refine hK.out _ _ ⟨HS0_, HS1_, HS2_, ⟨hb⟩⟩ (fun hHeld => ?_)
    clear hK K
    refine norm_ (a' := ?_) ?_ ?_
    rotate_left
    · show Act.put _ (some 35) _ = _
      simp only [Act.put, List.setIfInBounds_toArray, List.set_cons_zero, List.set_cons_succ, i64_w, i32_w]
      rfl
    refine one_ (i := 17) (N := some 42) #[true, true, true, true, true, true, true, true, true, true, true, true, true, true, true, true, true, true, false, false, false] rfl rfl (by kernel_rfl) (by decide) (fun K hK => ?_)
    refine Kd.R_append_rows_step (oldK k41 we) (w0 := wS) wS.heap.size (by rfl) (.tmp 35) (.tmp 41) 25 41 (.agg #[(.bool false), (.slice none 0 0)]) 32 rfl Try.underlying25 info41 rfl (show 0 < 2 by decide) (by omega) v5 (ds.take m ++ [d]) (ds.drop m) _ _ _ (fun _ => True) (fun _ => False) rfl rfl ?aO ?aR (fun _ _ h => h) (fun _ h => h.elim) (fun _ _ => trivial) hHeld.2.2.2.out hHeld.2.2.2.out.size ?aL ?_
    (case aO => exact HO5.out)
    (case aR => exact hDrop _ hHeld.2.2.2.out)
    (case aL => simp only [List.length_append, List.length_take, List.length_singleton]; omega)
    intro v7 w7 ho hb hg hat
    rw [hpu.out] at ho
    obtain ⟨A7, c7, hv7⟩ := Kd.R_slice ho
    subst hv7
    have HS0_ := cell_grown hg hHeld.1 (old_ne HO5.out hpS)
    have HS1_ := cell_grown hg hHeld.2.1 (old_ne HO5.out hdS)
    have HS2_ := cell_grown hg hHeld.2.2.1 (old_ne HO5.out hdS)
    have HO7 := Aside0.mk ho
    clear ho hg hat
    have f7 : w7.frozen? ⟨p, 0, none⟩ = false := blk_frozen (blk_below HPS.out hb) 0
    have HB7 := Aside0.mk hb
    refine hK.out _ _ ⟨HS0_, HS1_, HS2_, ⟨hb⟩⟩ (fun hHeld => ?_)
    clear hK K
    refine norm_ (a' := ?_) ?_ ?_
    rotate_left
    · show Act.put _ (some 42) _ = _
      simp only [Act.put, List.setIfInBounds_toArray, List.set_cons_zero, List.set_cons_succ, i64_w, i32_w]
      rfl
    refine pure_ (i := 18) (N := some 43) (v := ?_) (a' := ?_) #[true, true, true, true, true, true, true, true, true, true, true, true, true, true, true, true, true, true, true, false, false] rfl rfl (by kernel_rfl) (fun _ _ _ h => h) (Or.inl ⟨by rfl, ?_⟩) ?_ ?_
    rotate_left
    · intro w'
      go_simp
      with_reducible rfl
    rotate_left
    · simp only [Act.put, List.setIfInBounds_toArray, List.set_cons_zero, List.set_cons_succ, i64_w, i32_w]
      rfl
    refine pure_ (i := 19) (N := some 44) (v := ?_) (a' := ?_) #[true, true, true, true, true, true, true, true, true, true, true, true, true, true, true, true, true, true, true, true, false] rfl rfl (by kernel_rfl) (fun _ _ _ h => h) (Or.inl ⟨by rfl, ?_⟩) ?_ ?_
    rotate_left
    · intro w'
      go_simp
      with_reducible rfl
    rotate_left
    · simp only [Act.put, List.setIfInBounds_toArray, List.set_cons_zero, List.set_cons_succ, i64_w, i32_w]
      rfl
    refine last_ (i := 20) (N := none) #[true, true, true, true, true, true, true, true, true, true, true, true, true, true, true, true, true, true, true, true, true] rfl rfl (by kernel_rfl) (by decide) (fun K hK => ?_)
    refine skip_ (w1 := ?_) (by rfl) rfl ?_ ?_
    rotate_left
    · go_simp
      rfl
    refine hK.out _ _ ?_
    clear hK K
    refine done_ (by kernel_rfl) ?_

    go_wp2
    all_goals
      go_ret
      exact ⟨rfl, fin_put HbS.out HPS.out HB7.out HO7.out rfl⟩
end Go.Proofs.Ythlelhndmnkmjaa.Pr
end
section
namespace Go.Proofs.Ythlelhndmnkmjaa.Pr
open Go.RowKit Go.Proofs.Ythlelhndmnkmjaa.Brid Go.Proofs.YthlelhndmnkmjaaW.PrintWords Go.Proofs.YthlelhndmnkmjaaW.PrintLast Go.Proofs.YthlelhndmnkmjaaW.PrintMore
set_option linter.unusedVariables false
set_option linter.unusedSimpArgs false
set_option maxHeartbeats 4000000
set_option maxRecDepth 100000
theorem ahead_f (a b : S37) (h : a.f2.size ≤ 9223372036854775807) : tithebarnref02_Ahead_c.f a.f0 a.f1 a.f2 b.f0 b.f1 b.f2 = some (lessT a b) := by
  unfold tithebarnref02_Ahead_c.f; rw [if_pos h]; rfl
theorem rsorted_from (l : List S41) (hs : ∀ d ∈ l, (keyT d).f2.size ≤ 9223372036854775807) (hn : l.length ≤ 1099511627776) : ∀ (m i : Nat), i + m = l.length → (∀ (j : Nat) (h : j < l.length), j < i → l[j].f1.length ≠ 0) → (∀ (j : Nat) (h : j + 1 < l.length), j + 1 < i → lessT (keyT (l[j]'(by omega))) (keyT l[j + 1]) = true) →
    ∃ r, tithebarnref12_Sorted.l0 (m + 1) l (i : Int) = some r ∧ (r = true ↔ OkL l) := by
  intro m
  induction m with
  | zero =>
    intro i hi h1 h2
    refine ⟨true, ?_, ⟨fun _ => ⟨fun d hd => ?_, sorted_adj fun j hj => h2 j hj (by omega)⟩, fun _ => rfl⟩⟩
    · unfold tithebarnref12_Sorted.l0
      rw [if_neg (by omega)]
    · obtain ⟨j, hj, rfl⟩ := List.getElem_of_mem hd
      exact h1 j hj (by omega)
  | succ m ih =>
    intro i hi h1 h2
    have hil : i < l.length := by omega
    unfold tithebarnref12_Sorted.l0
    rw [if_pos (by omega), if_pos (by omega), rdD_at l i hil]
    by_cases h0 : l[i].f1.length = 0
    · exact ⟨false, by rw [if_pos (by omega)], ⟨fun h => absurd h (by simp), fun hok => absurd h0 (hok.1 _ (List.getElem_mem hil))⟩⟩
    · rw [if_neg (by omega)]
      have hw : wrap64 ((i : Int) + 1) = ((i + 1 : Nat) : Int) := by unfold wrap64; omega
      have h1' : ∀ (j : Nat) (h : j < l.length), j < i + 1 → l[j].f1.length ≠ 0 := fun j h hj => by
        by_cases e : j = i
        · subst e; exact h0
        · exact h1 j h (by omega)
      by_cases hi0 : i = 0
      · subst hi0
        rw [if_neg (by omega), hw]
        exact ih 1 (by omega) h1' (fun j h hj => by omega)
      · obtain ⟨k, rfl⟩ : ∃ k, i = k + 1 := ⟨i - 1, by omega⟩
        have hw1 : wrap64 (((k + 1 : Nat) : Int) - 1) = (k : Int) := by unfold wrap64; omega
        have hk0 := h1 k (by omega) (by omega)
        rw [if_pos (by omega), hw1, if_pos (by omega), if_pos (by omega), rdD_at l k (by omega), if_pos (by omega), if_pos (by omega), hw]
        have ha := ahead_f (keyT (l[k]'(by omega))) (keyT l[k + 1]) (hs _ (List.getElem_mem _))
        have ha' : tithebarnref02_Ahead_c.f (rd_T37 (l[k]'(by omega)).f1 0).f0 (rd_T37 (l[k]'(by omega)).f1 0).f1 (rd_T37 (l[k]'(by omega)).f1 0).f2 (rd_T37 l[k + 1].f1 0).f0 (rd_T37 l[k + 1].f1 0).f1 (rd_T37 l[k + 1].f1 0).f2 = some (lessT (keyT (l[k]'(by omega))) (keyT l[k + 1])) := ha
        rw [ha', Option.bind_some]
        cases hq : lessT (keyT (l[k]'(by omega))) (keyT l[k + 1]) with
        | false => exact ⟨false, by simp, ⟨fun h => absurd h (by simp), fun hok => by have := sorted_at hok.2 k (by omega); rw [hq] at this; cases this⟩⟩
        | true =>
          rw [if_pos rfl]
          exact ih (k + 1 + 1) (by omega) h1' (fun j h hj => by
            by_cases e : j = k
            · subst e; exact hq
            · exact h2 j h (by omega))
theorem rsorted (l : List S41) (hs : ∀ d ∈ l, (keyT d).f2.size ≤ 9223372036854775807) (hn : l.length ≤ 1099511627776) : ∃ r, tithebarnref12_Sorted.f (l.length + 1) l = some r ∧ (r = true ↔ OkL l) := by
  unfold tithebarnref12_Sorted.f
  exact rsorted_from l hs hn l.length 0 (by omega) (fun j _ h => by omega) (fun j _ h => by omega)
/-- the reference's Sorted -/
theorem RSorted_T (A : Option Addr) (c : Nat) (l : List S41) (w : World) (hC : Kd.C k41 w A l.length l) (hc : l.length ≤ c) (hs : ∀ d ∈ l, (keyT d).f2.size ≤ 9223372036854775807) (hn : l.length ≤ 1099511627776) :
    Calls Try.prog 22 #[.slice A l.length c] w fun e w' => Below w.heap.size w w' ∧ ∃ r : Bool, e = .returned (.bool r) ∧ (r = true ↔ OkL l) := by
  obtain ⟨r, h, hr⟩ := rsorted l hs hn
  exact (tithebarnref12_Sorted.calls _ A c l r w hC hc h).mono fun e w' ⟨he, hb⟩ => ⟨hb, r, he, hr⟩
structure RLp (w wr : World) (p : Nat) (ds : List S41) : Prop where
  below : Below w.heap.size w wr
  blk : ∃ A c, wr.heap[p]? = some (.cells #[.slice A ds.length c] 77 (0, 0)) ∧ (oldK k41 w).C wr A ds.length ds ∧ ds.length ≤ c
theorem RLp.step {w wr wr' : World} {p : Nat} {ds : List S41} (h : RLp w wr p ds) (hb : Below wr.heap.size wr wr') : RLp w wr' p ds := by
  obtain ⟨A, c, h1, h2, h3⟩ := h.blk
  exact ⟨below_then h.below h.below.size hb, A, c, blk_below h1 hb, Kd.C_below h2 hb, h3⟩
theorem dropRev {xss : List (List S41)} {j : Nat} (h : j < xss.length) : (xss.drop j).reverse.flatten = (xss.drop (j + 1)).reverse.flatten ++ xss[j] := by
  rw [List.drop_eq_getElem_cons h, List.reverse_cons, List.flatten_append, List.flatten_cons, List.flatten_nil, List.append_nil]
theorem dropMem {xss : List (List S41)} {j : Nat} {e : S41} (h : e ∈ (xss.drop j).reverse.flatten) : ∃ l ∈ xss, e ∈ l := by
  obtain ⟨l, hl, he⟩ := List.mem_flatten.1 h
  exact ⟨l, List.drop_subset _ _ (List.mem_reverse.1 hl), he⟩
theorem dropLen {xss : List (List S41)} {j m : Nat} (h : j < xss.length) : ((xss.drop (j + 1)).reverse.flatten ++ (xss[j]).take m).length ≤ sumLen xss := by
  have h1 : ((xss.drop j).reverse.flatten).length ≤ sumLen xss := by
    have e : sumLen xss = ((xss.take j).flatten ++ (xss.drop j).flatten).length := by
      unfold sumLen
      rw [← List.flatten_append, List.take_append_drop]
    rw [e, List.length_append, List.length_flatten, List.map_reverse, List.sum_reverse, ← List.length_flatten]
    omega
  rw [dropRev h] at h1
  simp only [List.length_append, List.length_take] at h1 ⊢
  omega
theorem RLp.fin {w wr : World} {p : Nat} {xss : List (List S41)} (h : RLp w wr p (putsV ((xss.drop 0).reverse.flatten))) (hok : ∀ l ∈ xss, OkL l) : ∀ Al cl, (wr.heap[p]? = some (.cells #[.slice Al (putsV ((xss.drop 0).reverse.flatten)).length cl] 77 (0, 0)) ∧ (oldK k41 w).C wr Al (putsV ((xss.drop 0).reverse.flatten)).length (putsV ((xss.drop 0).reverse.flatten)) ∧ (putsV ((xss.drop 0).reverse.flatten)).length ≤ cl) →
    NewPost xss w (.returned (.tuple #[.slice Al (putsV ((xss.drop 0).reverse.flatten)).length cl, .int .i64 0])) wr := fun Al cl hh =>
  ⟨h.below, fun _ => ⟨Al, cl, rfl, hh.2.2, oldK_C hh.2.1 h.below⟩, fun hb => absurd hok hb⟩
theorem RLp.put {w wr w1 : World} {p : Nat} {ds : List S41} {v' : Value} (hb : Below w.heap.size w wr) (hp : w.heap.size ≤ p) (hF : Fr (fun k => k = p) wr w1) (h1 : w1.heap[p]? = some (.cells #[v'] 77 (0, 0))) (hR : Kd.R (oldK k41 w) 41 w1 wr.heap.size (fun _ => True) v' ds) : RLp w w1 p ds := by
  obtain ⟨A, c, e, hl, hC⟩ := Kd.R_reads hR
  subst e
  exact ⟨below_fr hb hF (fun k hk => by omega), A, c, h1, hC, hl⟩
/-- the reference's Newest -/
theorem RNewest_T (A : Option Addr) (c : Nat) (xss : List (List S41)) (w : World) (hC : Kd.C (Kd.slice 41 k41) w A xss.length xss) (hc : xss.length ≤ c) (hn : xss.length ≤ 1024) (hs : sumLen xss ≤ 1099511627776) (hst : ∀ l ∈ xss, ∀ d ∈ l, (keyT d).f2.size ≤ 9223372036854775807) :
    Calls Try.prog 16 #[.slice A xss.length c] w fun e w' => NewPost xss w e w' := by
  have HC := Aside0.mk hC
  clear hC
  have HST := Aside0.mk hst
  clear hst
  go_enter Try.func16, Try.ntmps16
  go_wp2
  have hbx := heap_alloc_new w (.cells #[.slice none 0 0] 77)
  have HR0 : Aside0 (RLp w (w.alloc (.cells #[.slice none 0 0] 77)) w.heap.size []) := ⟨⟨below_alloc (Below.refl _ _) _, none, 0, hbx, Kd.C_nil _ _, Nat.le_refl _⟩⟩
  obtain ⟨p, hp⟩ : ∃ p, p = w.heap.size := ⟨_, rfl⟩
  have HPP := Aside0.mk (show w.heap.size ≤ p by omega)
  rw [← hp] at HR0 ⊢
  generalize w.alloc (.cells #[.slice none 0 0] 77) = W0 at *
  clear hp hbx
  go_loopg [5] xss.length (fun kx a wr => ∃ i : Nat, a = .int .i64 i ∧ i ≤ xss.length ∧ xss.length - i ≤ kx ∧ Aside0 (RLp w wr p []) ∧ Aside0 (∀ (j : Nat) (h : j < xss.length), j < i → OkL xss[j]))
  case atStart => exact ⟨0, rfl, Nat.zero_le _, by omega, HR0, ⟨fun j _ h => absurd h (Nat.not_lt_zero _)⟩⟩
  case round =>
    obtain ⟨i, rfl, hi, hkx, HR, HA⟩ := hrel
    clear HR0
    by_cases hlt : i < xss.length
    · have hz0 : (0 : Int) ≤ (i : Int) := by omega
      have hz1 : (i : Int) < (xss.length : Int) := by omega
      obtain ⟨ad, A0, c0, eA, x0, hc0, hCl⟩ := C_list HC.out i hlt
      subst eA
      have hx0 := pw_cell_below HR.out.below x0
      have HA2 := Aside0.mk (fun (hne : OkL xss[i]) (j : Nat) (h : j < xss.length) (hj : j < i + 1) => show OkL xss[j] from by
        by_cases e : j = i
        · subst e; exact hne
        · exact HA.out j h (by omega))
      have HM := Aside0.mk (List.getElem_mem hlt)
      have hll : xss[i].length ≤ 1099511627776 := Nat.le_trans (len_flat (List.getElem_mem hlt)) hs
      generalize xss[i] = l at *
      have hso := RSorted_T A0 c0 l wr (Kd.C_below hCl HR.out.below) hc0 (HST.out l HM.out) hll
      clear x0 hCl HA
      go_wp2_with fail
      refine hso.mono ?_
      rintro e w1 ⟨hb1, r, rfl, hr⟩
      have HR1 := Aside0.mk (HR.out.step hb1)
      have HRR := Aside0.mk hr
      clear hso hb1 hr
      cases r with
      | false =>
        have HBD := Aside0.mk (show ¬ ∀ l ∈ xss, OkL l from fun h => absurd (HRR.out.2 (h l HM.out)) (by simp))
        go_wp2
        go_ret2
        exact ⟨HR1.out.below, fun h => absurd h HBD.out, fun _ => rfl⟩
      | true =>
        have HA3 := Aside0.mk (HA2.out (HRR.out.1 rfl))
        go_wp2
        go_roundg (xss.length - (i + 1))
        case measure => omega
        case rel => exact ⟨i + 1, by go_num, by omega, by omega, HR1, HA3⟩
    · have hie : i = xss.length := by omega
      subst hie
      have HOK := Aside0.mk (show ∀ l ∈ xss, OkL l from fun l hl => by
        obtain ⟨j, hj, rfl⟩ := List.getElem_of_mem hl
        exact HA.out j hj hj)
      have HRS : Aside0 (RLp w wr p (putsV ((xss.drop xss.length).reverse.flatten))) := ⟨by rw [List.drop_length]; exact HR.out⟩
      clear HA HR
      go_wp2
      go_loopg [6] xss.length (fun kx a wr => ∃ j : Nat, a = .int .i64 ((j : Int) - 1) ∧ j ≤ xss.length ∧ j ≤ kx ∧ Aside0 (RLp w wr p (putsV ((xss.drop j).reverse.flatten))))
      case atStart => exact ⟨xss.length, rfl, Nat.le_refl _, Nat.le_refl _, HRS⟩
      case round =>
        obtain ⟨j, rfl, hj, hkx2, HR⟩ := hrel
        clear HRS
        by_cases hj0 : j = 0
        · subst hj0
          have HF := Aside0.mk (RLp.fin HR.out HOK.out)
          obtain ⟨Al, cl, hpb, hCl, hlc⟩ := HR.out.blk
          have q0 := (blk_cell hpb 0).trans rfl
          have HP := Aside0.mk (And.intro hpb (And.intro hCl hlc))
          clear hpb hCl hlc
          go_wp2
          go_ret2
          exact HF.out _ _ HP.out
        · obtain ⟨k, rfl⟩ : ∃ k, j = k + 1 := ⟨j - 1, by omega⟩
          have hkl : k < xss.length := by omega
          have hk0 : (0 : Int) ≤ (k : Int) := by omega
          have hk1 : (k : Int) < (xss.length : Int) := by omega
          have hkk : ((k + 1 : Nat) : Int) - 1 = (k : Int) := by omega
          rw [hkk]
          clear hkk
          obtain ⟨ad, A0, c0, eA, x0, hc0, hCl⟩ := C_list HC.out k hkl
          subst eA
          have HX0 := Aside0.mk x0
          have HCL := Aside0.mk hCl
          have HDR := Aside0.mk (dropRev hkl)
          have HLN := Aside0.mk (fun m => dropLen (m := m) hkl)
          have HMB := Aside0.mk (fun e => dropMem (xss := xss) (j := k + 1) (e := e))
          have HM := Aside0.mk (List.getElem_mem hkl)
          have HC00 := Aside0.mk hc0
          have hll : xss[k].length ≤ 1099511627776 := Nat.le_trans (len_flat (List.getElem_mem hkl)) hs
          clear x0 hCl hc0
          generalize xss[k] = l at *
          generalize (xss.drop (k + 1)).reverse.flatten = B at *
          have HR0 : Aside0 (RLp w wr p (putsV (B ++ l.take 0))) := ⟨by simpa using HR.out⟩
          clear HR
          go_wp2
          go_loopg [7] l.length (fun kx a wr => ∃ m : Nat, a = .int .i64 m ∧ m ≤ l.length ∧ l.length - m ≤ kx ∧ Aside0 (RLp w wr p (putsV (B ++ l.take m))))
          case atStart => exact ⟨0, rfl, Nat.zero_le _, by omega, HR0⟩
          case round =>
            obtain ⟨m, rfl, hm, hkx3, HR⟩ := hrel
            clear HR0
            by_cases hml : m < l.length
            · have hm0 : (0 : Int) ≤ (m : Int) := by omega
              have hm1 : (m : Int) < (l.length : Int) := by omega
              have y0 := pw_cell_below HR.out.below HX0.out
              obtain ⟨al, Ar, cr, eA, x0, x1, hcr, hCr⟩ := at_T41 HCL.out (m : Int) hm0 hm1
              subst eA
              rw [rdD_at l m hml] at x0 x1 hcr hCr
              simp only [Int.toNat_natCast] at x0 x1
              have y1 := pw_cell_below HR.out.below x0
              have y2 := pw_cell_below HR.out.below x1
              obtain ⟨Al, cl, hpb, hCp, hlc⟩ := HR.out.blk
              have hd0 := (HOK.out l HM.out).1 _ (List.getElem_mem hml)
              have HTK := Aside0.mk (List.take_succ_eq_append_getElem hml)
              have hpu := PutR_T p l[m] Ar cr _ Al cl w _ hpb hCp hlc HR.out.below hCr hcr (Nat.le_trans (putsV_len _) (Nat.le_trans (HLN.out m) hs)) (fun e he => (putsV_mem he).2) (fun e he => by
                  rcases List.mem_append.1 (putsV_mem he).1 with h1 | h1
                  · obtain ⟨l', hl', he'⟩ := HMB.out e h1
                    exact HST.out l' hl' e he'
                  · exact HST.out l HM.out e (List.take_subset _ _ h1)) (HST.out l HM.out _ (List.getElem_mem hml)) (by omega)
              have HD0 := Aside0.mk hd0
              generalize l[m] = d at *
              have HPB := Aside0.mk HR.out.below
              clear x0 x1 hcr hCr hpb hCp hlc hd0
              go_wp2_with fail
              refine hpu.mono ?_
              rintro e w1 ⟨rfl, hF1, v', hb1, hR1⟩
              have HR1 : Aside0 (RLp w w1 p (putsV (B ++ l.take (m + 1)))) := ⟨RLp.put HPB.out HPP.out hF1 hb1 (by rw [HTK.out, ← List.append_assoc, putsV_snoc, if_neg HD0.out]; exact hR1)⟩
              clear hpu hF1 hb1 hR1
              go_wp2
              go_roundg (l.length - (m + 1))
              case measure => omega
              case rel => exact ⟨m + 1, by go_num, by omega, by omega, HR1⟩
            · have hmm : m = l.length := by omega
              subst hmm
              have HRN : Aside0 (RLp w wr p (putsV ((xss.drop k).reverse.flatten))) := ⟨by rw [HDR.out]; have := HR.out; rwa [List.take_length] at this⟩
              have y0 := pw_cell_below HR.out.below HX0.out
              clear HR
              go_wp2
              go_roundg (k)
              case measure => omega
              case rel => exact ⟨k, by go_num, by omega, Nat.le_refl _, HRN⟩
end Go.Proofs.Ythlelhndmnkmjaa.Pr
end
