/- the reference's list: From, Get, Bytes; both lists put -/
import Derived.Test.YtnfliommpdjlkaaRfA
namespace Go.Proofs.Ytnfliommpdjlkaa.Pr
open Go.RowKit Go.Proofs.Ytnfliommpdjlkaa.Brid Go.Proofs.YtnfliommpdjlkaaW.PrintWords Go.Proofs.YtnfliommpdjlkaaW.PrintLast Go.Proofs.YtnfliommpdjlkaaW.PrintMore
set_option linter.unusedVariables false
set_option linter.unusedSimpArgs false
set_option maxHeartbeats 4000000
set_option maxRecDepth 100000
attribute [local go_sem] Oper.semAt_some
theorem From_R (p : Nat) (k : S27) (ds : List S25) (A : Option Addr) (c : Nat) (w : World) (hp : w.heap[p]? = some (.cells #[.slice A ds.length c] 54 (0, 0))) (hC : Kd.C k25 w A ds.length ds) (hc : ds.length ≤ c)
    (hn : ds.length ≤ 1099511627776) (hf : ∀ e ∈ ds, e.f1.length ≠ 0) (hs : ∀ e ∈ ds, (keyT e).f2.size ≤ 9223372036854775807) (hk : k.f2.size ≤ 9223372036854775807) :
    Calls Try.prog 34 #[.pointer (some ⟨p, 0, none⟩), .agg (cellsT k)] w fun e w' => Below w.heap.size w w' ∧ e = .returned (.slice (if c = (preOf keyT k ds).length then A else A.map (·.add ((preOf keyT k ds).length * 2))) (postOf keyT k ds).length (c - (preOf keyT k ds).length)) := by
  have b1 := below_alloc (Below.refl w.heap.size w) (.cells (cellsT k) 27)
  have hpl := place_T p k ds A c _ (blk_below hp b1) (Kd.C_below hC b1) (by omega) hf hs hk
  have hml := pre_len k ds
  have hcut := post_cut k ds
  have hlen : (postOf keyT k ds).length = ds.length - (preOf keyT k ds).length := by rw [← hcut, List.length_drop]
  have HB1 := Aside0.mk b1
  have HP := Aside0.mk hp
  have HC := Aside0.mk hC
  clear b1 hp hC hf hs hk
  generalize (preOf keyT k ds).length = m at *
  generalize hitV k ds = hv at *
  have HCUT := Aside0.mk hcut
  have HLEN := Aside0.mk hlen
  clear hcut hlen
  have hz0 : (0 : Int) ≤ (m : Int) := by omega
  have hz1 : (m : Int) ≤ (ds.length : Int) := by omega
  have hz2 : (m : Int) ≤ (c : Int) := by omega
  have hz5 : (ds.length : Int) ≤ (c : Int) := by omega
  go_enter Try.func34, Try.ntmps34
  go_wp2_with fail
  refine hpl.mono ?_
  rintro e wS ⟨rfl, hbS⟩
  have HBS := Aside0.mk (below_then HB1.out HB1.out.size hbS)
  have q0 := (blk_cell (blk_below HP.out HBS.out) 0).trans rfl
  clear hbS
  go_wp2
  all_goals
    go_ret
    refine ⟨HBS.out, ?_⟩
    rw [HLEN.out]
    first | rfl | (rw [if_pos (by assumption)]; rfl) | (rw [if_neg (by assumption)]; rfl)
def GetQ (o : Option S25) (w' : World) (e : Ending) : Prop := match o with
  | none => e = .returned (.tuple #[.agg #[.bool false, .slice none 0 0], .bool false])
  | some d => ∃ A c, e = .returned (.tuple #[.agg #[.bool d.f0, .slice A d.f1.length c], .bool true]) ∧ d.f1.length ≤ c ∧ Kd.C k27 w' A d.f1.length d.f1
theorem getV_at (k : S27) (ds : List S25) : (hitV k ds = true → ∃ h : (preOf keyT k ds).length < ds.length, getV ds k = some ds[(preOf keyT k ds).length]) ∧ (hitV k ds = false → getV ds k = none) := by
  have h2 := post_cut k ds
  unfold hitV getV
  cases hp : postOf keyT k ds with
  | nil => simp
  | cons e r =>
    rw [hp] at h2
    have hlt : (preOf keyT k ds).length < ds.length := by
      rcases Nat.lt_or_ge (preOf keyT k ds).length ds.length with h | h
      · exact h
      · rw [List.drop_eq_nil_of_le h] at h2; cases h2
    rw [List.drop_eq_getElem_cons hlt] at h2
    injection h2 with h3 h4
    cases hl : lessT k (keyT e) with
    | true => simp [hl]
    | false => simp [hl, hlt, h3]
theorem Get_R (p : Nat) (k : S27) (ds : List S25) (A : Option Addr) (c : Nat) (w : World) (hp : w.heap[p]? = some (.cells #[.slice A ds.length c] 54 (0, 0))) (hC : Kd.C k25 w A ds.length ds) (hc : ds.length ≤ c)
    (hn : ds.length ≤ 1099511627776) (hf : ∀ e ∈ ds, e.f1.length ≠ 0) (hs : ∀ e ∈ ds, (keyT e).f2.size ≤ 9223372036854775807) (hk : k.f2.size ≤ 9223372036854775807) :
    Calls Try.prog 32 #[.pointer (some ⟨p, 0, none⟩), .agg (cellsT k)] w fun e w' => Below w.heap.size w w' ∧ GetQ (getV ds k) w' e := by
  have b1 := below_alloc (below_alloc (Below.refl w.heap.size w) (.cells (cellsT k) 27)) (.cells #[.bool false, .slice none 0 0] 25)
  have z1 : ((w.alloc (.cells (cellsT k) 27)).alloc (.cells #[.bool false, .slice none 0 0] 25)).heap.size = w.heap.size + 2 := by simp
  have k1 : ((w.alloc (.cells (cellsT k) 27)).alloc (.cells #[.bool false, .slice none 0 0] 25)).heap[w.heap.size + 1]? = some (.cells #[.bool false, .slice none 0 0] 25 (0, 0)) := by
    have := heap_alloc_new (w.alloc (.cells (cellsT k) 27)) (.cells #[.bool false, .slice none 0 0] 25)
    rwa [show (w.alloc (.cells (cellsT k) 27)).heap.size = w.heap.size + 1 by simp] at this
  have hpl := place_T p k ds A c _ (blk_below hp b1) (Kd.C_below hC b1) (by omega) hf hs hk
  have hml := pre_len k ds
  have hgv := getV_at k ds
  have HB1 := Aside0.mk b1
  have HP := Aside0.mk hp
  have HC := Aside0.mk hC
  have HK1 := Aside0.mk k1
  clear b1 hp hC hf hs hk k1 z1
  generalize (preOf keyT k ds).length = m at *
  generalize getV ds k = gv at *
  cases hhv : hitV k ds with
  | false =>
    rw [hhv] at hgv hpl
    obtain rfl : gv = none := hgv.2 rfl
    clear hgv hhv
    go_enter Try.func32, Try.ntmps32
    go_wp2_with fail
    refine hpl.mono ?_
    rintro e wS ⟨rfl, hbS⟩
    have HBS := Aside0.mk (below_then HB1.out HB1.out.size hbS)
    have k2 := blk_below HK1.out hbS
    have q0 := (blk_cell k2 0).trans rfl
    have q1 := (blk_cell k2 1).trans rfl
    have f0 := blk_frozen k2 0
    have f1 := blk_frozen k2 1
    have HK2 := Aside0.mk k2
    clear hbS k2
    go_wp2
    have HE := blk_set (blk_set HK2.out 0 (.bool false)) 1 (.slice none 0 0)
    refine bodyPost_ret (results_ct rfl _ _ (w.heap.size + 1) 25 _ (0, 0) _ rfl HE Try.underlying25 rfl (by kernel_rfl)) rfl ⟨below_set (below_set HBS.out (Nat.le_succ _)) (Nat.le_succ _), ?_⟩
    rfl
  | true =>
    rw [hhv] at hgv hpl
    obtain ⟨hlt, hgs⟩ := hgv.1 rfl
    subst hgs
    clear hgv hhv
    have hz0 : (0 : Int) ≤ (m : Int) := by omega
    have hz1 : (m : Int) < (ds.length : Int) := by omega
    obtain ⟨ad, Ar, cr, eA, x0, x1, hcr, hCr⟩ := at_T25 HC.out (m : Int) hz0 hz1
    subst eA
    rw [rdD_at ds m hlt] at x0 x1 hcr hCr
    simp only [Int.toNat_natCast] at x0 x1
    generalize ds[m] = d at *
    have HCR := Aside0.mk hCr
    have HX0 := Aside0.mk x0
    have HX1 := Aside0.mk x1
    clear hCr x0 x1
    go_enter Try.func32, Try.ntmps32
    go_wp2_with fail
    refine hpl.mono ?_
    rintro e wS ⟨rfl, hbS⟩
    have HBS := Aside0.mk (below_then HB1.out HB1.out.size hbS)
    have k2 := blk_below HK1.out hbS
    have q0 := (blk_cell k2 0).trans rfl
    have q1 := (blk_cell k2 1).trans rfl
    have f0 := blk_frozen k2 0
    have f1 := blk_frozen k2 1
    have r0 := (blk_cell (blk_below HP.out HBS.out) 0).trans rfl
    have HK2 := Aside0.mk k2
    have x0 := (Below.cell HBS.out (World.block_lt_of_cell? _ _ HX0.out)).trans HX0.out
    have x1 := (Below.cell HBS.out (World.block_lt_of_cell? _ _ HX1.out)).trans HX1.out
    clear hbS k2
    go_wp2
    have HE := blk_set (blk_set HK2.out 0 (.bool d.f0)) 1 (.slice Ar d.f1.length cr)
    have hB := below_set (j := 1) (v := .slice Ar d.f1.length cr) (below_set (j := 0) (v := .bool d.f0) HBS.out (Nat.le_succ w.heap.size)) (Nat.le_succ w.heap.size)
    refine bodyPost_ret (results_ct rfl _ _ (w.heap.size + 1) 25 _ (0, 0) _ rfl HE Try.underlying25 rfl (by kernel_rfl)) rfl ⟨hB, Ar, cr, rfl, hcr, Kd.C_below HCR.out hB⟩
theorem sumI_take (ds : List S25) (i : Nat) (h : i < ds.length) : bytesI (ds.take (i + 1)) = bytesI (ds.take i) + sizeI ds[i].f1 := by
  rw [List.take_succ_eq_append_getElem h, bytesI, bytesI, List.map_append, List.sum_append]
  simp
theorem sizeI_take (l : List S27) (j : Nat) (h : j < l.length) : sizeI (l.take (j + 1)) = sizeI (l.take j) + (8 + (l[j].f2.size : Int)) := by
  rw [List.take_succ_eq_append_getElem h, sizeI, sizeI, List.map_append, List.sum_append]
  simp only [List.map_cons, List.map_nil, List.sum_cons, List.sum_nil]
  omega
theorem wrap_two (a b c : Int) : wrap64 (wrap64 (a + b) + wrap64 c) = wrap64 (a + (b + c)) := by unfold wrap64; omega
theorem bytesI_none (ds : List S25) : wrap64 (bytesI (ds.take 0)) = 0 := by simp [bytesI, wrap64]
theorem sizeI_none (a : Int) (l : List S27) : wrap64 (a + sizeI (l.take 0)) = wrap64 (a + 8) := by simp [sizeI]
theorem Bytes_R (p : Nat) (ds : List S25) (A : Option Addr) (c : Nat) (w : World) (hp : w.heap[p]? = some (.cells #[.slice A ds.length c] 54 (0, 0))) (hC : Kd.C k25 w A ds.length ds)
    (hn : ds.length ≤ 1099511627776) (hl : ∀ e ∈ ds, e.f1.length ≤ 1099511627776) :
    Calls Try.prog 31 #[.pointer (some ⟨p, 0, none⟩)] w fun e w' => e = .returned (.int .i64 (wrap64 (bytesI ds))) ∧ w' = w := by
  have r0 := (blk_cell hp 0).trans rfl
  have HC := Aside0.mk hC
  have HL := Aside0.mk hl
  clear hp hC hl
  go_enter Try.func31, Try.ntmps31
  go_wp2
  go_loopg [3, 4, 5] ds.length (fun kx a b _k wr => wr = w ∧ ∃ i : Nat, b = .int .i64 i ∧ i ≤ ds.length ∧ ds.length - i ≤ kx ∧ a = .int .i64 (wrap64 (bytesI (ds.take i))))
  case atStart => exact ⟨rfl, 0, rfl, Nat.zero_le _, by omega, by rw [bytesI_none]⟩
  case round =>
    obtain ⟨rfl, i, rfl, hi, hkx, rfl⟩ := hrel
    by_cases hlt : i < ds.length
    · have hz0 : (0 : Int) ≤ (i : Int) := by omega
      have hz1 : (i : Int) < (ds.length : Int) := by omega
      obtain ⟨ad, Ar, cr, eA, x0, x1, hcr, hCr⟩ := at_T25 HC.out (i : Int) hz0 hz1
      subst eA
      rw [rdD_at ds i hlt] at x0 x1 hcr hCr
      simp only [Int.toNat_natCast] at x0 x1
      have hle := HL.out _ (List.getElem_mem hlt)
      have hst := Aside0.mk (sumI_take ds i hlt)
      generalize ds[i] = d at *
      have HCR := Aside0.mk (show Kd.C k27 wr Ar d.f1.length d.f1 from hCr)
      generalize bytesI (ds.take i) = bi at *
      have hsp := Aside0.mk (And.intro r0 x1)
      have h8 := Aside0.mk (sizeI_none bi d.f1)
      clear hCr x0
      go_wp2_with fail
      rw [wrap_wrap_add, ← h8.out]
      obtain ⟨wo, rfl⟩ : ∃ wo, wo = wr := ⟨_, rfl⟩
      go_loopg [3, 5] d.f1.length (fun kj a b wi => wi = wo ∧ ∃ j : Nat, b = .int .i64 j ∧ j ≤ d.f1.length ∧ d.f1.length - j ≤ kj ∧ a = .int .i64 (wrap64 (bi + sizeI (d.f1.take j))))
      case atStart => exact ⟨rfl, 0, rfl, Nat.zero_le _, by omega, rfl⟩
      case round =>
        obtain ⟨rfl, j, rfl, hj, hkj, rfl⟩ := hrel
        by_cases hjl : j < d.f1.length
        · have hy0 : (0 : Int) ≤ (j : Int) := by omega
          have hy1 : (j : Int) < (d.f1.length : Int) := by omega
          obtain ⟨ak, eK, y0, y1, y2⟩ := at_T27 HCR.out (j : Int) hy0 hy1
          subst eK
          rw [rdY_at d.f1 j hjl] at y2
          simp only [Int.toNat_natCast] at y2
          have hsj := Aside0.mk (sizeI_take d.f1 j hjl)
          generalize d.f1[j] = v at *
          generalize sizeI (d.f1.take j) = sj at *
          clear y0 y1
          go_wp2
          go_roundg (d.f1.length - (j + 1))
          case measure => omega
          case rel => exact ⟨rfl, j + 1, by go_num, by omega, by omega, by rw [hsj.out, wrap_two]⟩
        · obtain rfl : d.f1.length = j := by omega
          have htl := Aside0.mk (show sizeI (d.f1.take d.f1.length) = sizeI d.f1 by rw [List.take_length])
          rw [htl.out]
          go_wp2
          go_roundg (ds.length - (i + 1))
          case measure => omega
          case rel => exact ⟨rfl, i + 1, by go_num, by omega, by omega, by rw [hst.out]⟩
    · obtain rfl : ds.length = i := by omega
      go_wp2
      go_ret
      exact ⟨by first | rfl | (rw [List.take_length]; rfl), rfl⟩
theorem PutRAny_T (p : Nat) (d : S25) (A0 : Option Addr) (c0 : Nat) (ds : List S25) (A : Option Addr) (c : Nat) (we w : World) (hp : w.heap[p]? = some (.cells #[.slice A ds.length c] 54 (0, 0))) (hO : Kd.C (oldK k25 we) w A ds.length ds) (hc : ds.length ≤ c) (hb : Below we.heap.size we w)
    (hC : Kd.C k27 we A0 d.f1.length d.f1) (hc0 : d.f1.length ≤ c0) (hn : ds.length ≤ 1099511627776) (hf : ∀ e ∈ ds, e.f1.length ≠ 0) (hs : ∀ e ∈ ds, (keyT e).f2.size ≤ 9223372036854775807) (hk : 0 < d.f1.length → (keyT d).f2.size ≤ 9223372036854775807) :
    Calls Try.prog 28 #[.pointer (some ⟨p, 0, none⟩), .agg #[.bool d.f0, .slice A0 d.f1.length c0]] w fun e w' => e = .returned (.bool (decide (d.f1.length ≠ 0))) ∧ Fr (fun k => k = p) w w' ∧
      ((d.f1.length = 0 ∧ w'.heap[p]? = some (.cells #[.slice A ds.length c] 54 (0, 0))) ∨ (d.f1.length ≠ 0 ∧ ∃ v', w'.heap[p]? = some (.cells #[v'] 54 (0, 0)) ∧ Kd.R (oldK k25 we) 25 w' w.heap.size (fun _ => True) v' (putV ds d))) := by
  by_cases h : d.f1.length = 0
  · have hpb := blk_below hp (below_alloc (Below.refl w.heap.size w) (.cells #[.bool d.f0, .slice A0 0 c0] 25))
    have e1 : Value.slice A0 d.f1.length c0 = .slice A0 0 c0 := by rw [h]
    rw [e1, decide_eq_false (fun k => k h)]
    have HPB := Aside0.mk hpb
    have HH := Aside0.mk h
    clear hpb h e1 hp hO hb hC hf hs hk hn hc0 hc
    go_enter Try.func28, Try.ntmps28
    go_wp2
    go_ret
    exact ⟨rfl, Fr.of_below (below_alloc (Below.refl _ _) _), .inl ⟨HH.out, HPB.out⟩⟩
  · refine (PutR_T p d A0 c0 ds A c we w hp hO hc hb hC hc0 hn hf hs (hk (by omega)) (by omega)).mono ?_
    rintro e w' ⟨rfl, hF, v', hv, hR⟩
    exact ⟨by rw [decide_eq_true h], hF, .inr ⟨h, v', hv, hR⟩⟩
theorem from_C {w : World} {A : Option Addr} {c : Nat} {k : S27} {ds : List S25} (hC : Kd.C k25 w A ds.length ds) (hc : ds.length ≤ c) :
    (postOf keyT k ds).length ≤ c - (preOf keyT k ds).length ∧ Kd.C k25 w (if c = (preOf keyT k ds).length then A else A.map (·.add ((preOf keyT k ds).length * 2))) (postOf keyT k ds).length (postOf keyT k ds) := by
  have hD := Kd.C_drop hC (pre_len k ds) hc
  rw [post_cut] at hD
  refine ⟨?_, hD⟩
  have h := congrArg List.length (pre_post keyT k ds)
  rw [List.length_append] at h
  omega
/-- the reference's list, beside what the other list owns (OA) -/
def RefL (w we : World) (b0 q : Nat) (OA : Nat → Prop) (ds : List S25) : Prop := ∃ v, w.heap[q]? = some (.cells #[v] 54 (0, 0)) ∧ Kd.R (oldK k25 we) 25 w b0 (fun k => ¬ OA k ∧ k ≠ q) v ds ∧ ¬ OA q
theorem RefL.put_a {w w' we : World} {b0 q : Nat} {OA : Nat → Prop} {ds : List S25} (h : RefL w we b0 q OA ds) (hF : Fr OA w w') : RefL w' we b0 q (fun k => (OA k ∨ w.heap.size ≤ k) ∧ k < w'.heap.size) ds := by
  obtain ⟨v, hq, hR, hn⟩ := h
  have hql := (Array.getElem?_eq_some_iff.1 hq).1
  refine ⟨v, (hF.block q hql hn).trans hq, Kd.R_mono (Kd.R_move (Kd.R_bound hR) (fun k hk => hF.block k hk.2.2.1 hk.1.1)) (fun k hk => ⟨fun h => h.1.elim hk.1.1 (fun h2 => by have := hk.2.2.1; omega), hk.1.2⟩), fun h => h.1.elim hn (fun h2 => by omega)⟩
theorem RefL.put_b {w w' we : World} {b0 q : Nat} {OA : Nat → Prop} {ds' : List S25} {v' : Value} (hql : q < w.heap.size) (hn : ¬ OA q) (hO : ∀ k, OA k → k < w.heap.size) (hb : b0 ≤ w.heap.size)
    (hv : w'.heap[q]? = some (.cells #[v'] 54 (0, 0))) (hR : Kd.R (oldK k25 we) 25 w' w.heap.size (fun _ => True) v' ds') : RefL w' we b0 q OA ds' :=
  ⟨v', hv, Kd.R_lower (Kd.R_mono (Kd.R_bound hR) (fun k hk => ⟨fun h => by have := hO k h; have := hk.2.1; omega, fun e => by have := hk.2.1; omega⟩)) hb, hn⟩
theorem RefL.reads {w we : World} {b0 q : Nat} {OA : Nat → Prop} {ds : List S25} (h : RefL w we b0 q OA ds) : ∃ A c, w.heap[q]? = some (.cells #[.slice A ds.length c] 54 (0, 0)) ∧ ds.length ≤ c ∧ Kd.C (oldK k25 we) w A ds.length ds ∧ Kd.R (oldK k25 we) 25 w b0 (fun k => ¬ OA k ∧ k ≠ q) (.slice A ds.length c) ds := by
  obtain ⟨v, hq, hR, hn⟩ := h
  obtain ⟨A, c, rfl, hl, hC⟩ := Kd.R_reads hR
  exact ⟨A, c, hq, hl, hC, hR⟩
/-- a round of puts: the reference's own -/
theorem PutRef_T (d : S25) (A0 : Option Addr) (c0 : Nat) (l : List S25) (q b0 : Nat) (OA : Nat → Prop) (we w : World) (h : RefL w we b0 q OA (putsV l)) (hO : ∀ k, OA k → k < w.heap.size) (hb0 : b0 ≤ w.heap.size) (hb : Below we.heap.size we w)
    (hC : Kd.C k27 we A0 d.f1.length d.f1) (hc0 : d.f1.length ≤ c0) (hn : l.length ≤ 1099511627776) (hs : ∀ e ∈ l, 0 < e.f1.length → (keyT e).f2.size ≤ 9223372036854775807) (hk : 0 < d.f1.length → (keyT d).f2.size ≤ 9223372036854775807) :
    Calls Try.prog 28 #[.pointer (some ⟨q, 0, none⟩), .agg #[.bool d.f0, .slice A0 d.f1.length c0]] w fun e w' => e = .returned (.bool (decide (d.f1.length ≠ 0))) ∧ Fr (fun k => k = q) w w' ∧ RefL w' we b0 q OA (putsV (l ++ [d])) := by
  obtain ⟨A, c, hq, hl, hCo, hR⟩ := h.reads
  obtain ⟨_, _, _, hnq⟩ := h
  have hql := (Array.getElem?_eq_some_iff.1 hq).1
  refine (PutRAny_T q d A0 c0 (putsV l) A c we w hq hCo hl hb hC hc0 (Nat.le_trans (putsV_len l) hn) (fun e he => (putsV_mem he).2) (fun e he => hs e (putsV_mem he).1 (Nat.pos_of_ne_zero (putsV_mem he).2)) hk).mono ?_
  rintro e w' ⟨rfl, hF, h2⟩
  refine ⟨rfl, hF, ?_⟩
  rw [putsV_snoc]
  rcases h2 with ⟨h0, hq'⟩ | ⟨h0, v', hv, hR'⟩
  · rw [if_pos h0]
    exact ⟨_, hq', Kd.R_step hR (fun k hk hlt => hF.block k hlt hk.2), hnq⟩
  · rw [if_neg h0]
    exact RefL.put_b hql hnq hO hb0 hv hR'
end Go.Proofs.Ytnfliommpdjlkaa.Pr
