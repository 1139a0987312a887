/- MgL MgR MgK MgM MgO -/
import Derived.Test.YthlelhndmnkmjaaMhC
import Derived.Test.YthlelhndmnkmjaaPrf49
import Derived.Laws.IdiomCopy
import Derived.Lib.SliceRun
import Derived.Test.YthlelhndmnkmjaaMgA
import Derived.RangeFuncNested
import Derived.RangeFuncBound
import Derived.RangeFuncCalls
import Derived.RangeFuncLeaves
import Derived.OwnWalkIn
import Derived.TacticsInMore
import Derived.LoopNIn
import Derived.LoopIn
import Derived.Sort.LoopGhostIn
import Derived.Stop.RegionWithIn
import Derived.RegionIn
import Derived.Shelf.AbstractIn
section
namespace Go.Proofs.Ythlelhndmnkmjaa.Pr
open Go.RowKit Go.Proofs.Ythlelhndmnkmjaa.Brid Go.Proofs.YthlelhndmnkmjaaW.PrintWords Go.Proofs.YthlelhndmnkmjaaW.PrintLast Go.Proofs.YthlelhndmnkmjaaW.PrintMore
set_option linter.unusedVariables false
set_option linter.unusedSimpArgs false
set_option maxHeartbeats 4000000
set_option maxRecDepth 100000
def liveV (l : List S41) : List S41 := l.filter (fun d => !d.f0)
theorem IndexFunc49_T (A : Option Addr) (c : Nat) (l : List S41) (w : World) (hC : Kd.C k41 w A l.length l) (hn : l.length ≤ 4611686018427387904) :
    Calls Try.prog 76 #[.slice A l.length c, .func (.func 49) #[] #[]] w fun e w' => Below w.heap.size w w' ∧ ((e = .returned (.int .i64 (-1)) ∧ ∀ d ∈ l, d.f0 = false) ∨ ∃ (i : Nat) (h : i < l.length), e = .returned (.int .i64 i) ∧ l[i].f0 = true ∧ ∀ (j : Nat) (h : j < i), (l[j]'(by omega)).f0 = false) := by
  have HC := Aside0.mk hC
  clear hC
  go_enter Try.func76, Try.ntmps76
  go_wp2
  go_loopg [8] l.length (fun kx a wr => ∃ i : Nat, a = .int .i64 i ∧ i ≤ l.length ∧ l.length - i ≤ kx ∧ Aside0 (Below w.heap.size w wr) ∧ Aside0 (∀ (j : Nat) (h : j < l.length), j < i → l[j].f0 = false))
  case atStart => exact ⟨0, rfl, Nat.zero_le _, by omega, ⟨Below.refl _ _⟩, ⟨fun j _ h => absurd h (Nat.not_lt_zero _)⟩⟩
  case round =>
    obtain ⟨i, rfl, hi, hkx, HB, HA⟩ := hrel
    by_cases hlt : i < l.length
    · have hz0 : (0 : Int) ≤ (i : Int) := by omega
      have hz1 : (i : Int) < (l.length : Int) := by omega
      have hCr := Kd.C_below HC.out HB.out
      obtain ⟨ad, Ar, cr, eA, x0, x1, hcr, hC⟩ := at_T41 hCr (i : Int) hz0 hz1
      subst eA
      rw [rdD_at l i hlt] at x0 x1 hcr hC
      simp only [Int.toNat_natCast] at x0 x1
      have HA2 := Aside0.mk (fun (hne : l[i].f0 = false) (j : Nat) (h : j < l.length) (hj : j < i + 1) => show l[j].f0 = false from by
        by_cases e : j = i
        · subst e; exact hne
        · exact HA.out j h (by omega))
      have HE := Aside0.mk (fun (he : l[i].f0 = true) => show ∃ (i' : Nat) (h : i' < l.length), i' = i ∧ l[i'].f0 = true ∧ ∀ (j : Nat) (h : j < i'), (l[j]'(by omega)).f0 = false from ⟨i, hlt, rfl, he, fun j hj => HA.out j (by omega) hj⟩)
      generalize l[i] = d at *
      have hcl := merge_Live_1.calls d.f0 Ar cr d.f1 d.f0 wr hC hcr rfl
      by_cases hd : d.f0 = true
      · rw [hd] at hcl x0
        have HE2 := Aside0.mk (HE.out hd)
        clear hC hcr hd HA HA2 hCr HE
        go_wp2_with fail
        refine hcl.mono ?_
        rintro e w2 ⟨rfl, hb2⟩
        have HB2 := Aside0.mk (below_then HB.out HB.out.size hb2)
        clear hcl hb2
        go_wp2
        go_ret
        obtain ⟨i', h1, h2, h3, h4⟩ := HE2.out
        exact ⟨HB2.out, .inr ⟨i', h1, by rw [h2]; rfl, h3, h4⟩⟩
      · have hd' : d.f0 = false := by simpa using hd
        rw [hd'] at hcl x0
        have HA3 := Aside0.mk (HA2.out hd')
        clear hC hcr hd hd' HA HA2 hCr HE
        go_wp2_with fail
        refine hcl.mono ?_
        rintro e w2 ⟨rfl, hb2⟩
        have HB2 := Aside0.mk (below_then HB.out HB.out.size hb2)
        clear hcl hb2
        go_wp2
        go_roundg (l.length - (i + 1))
        case measure => omega
        case rel => exact ⟨i + 1, by go_num, by omega, by omega, HB2, HA3⟩
    · obtain rfl : l.length = i := by omega
      go_wp2
      go_ret
      refine ⟨HB.out, .inl ⟨rfl, fun d hd => ?_⟩⟩
      obtain ⟨j, hj, rfl⟩ := List.getElem_of_mem hd
      exact HA.out j hj hj
theorem q25 (w : World) (a : Option Addr) (n c n' c' : Nat) : (binOp .eql 25 (.slice a n c) (.slice none n' c')).run Try.prog w = .ok (.bool a.isNone) w := Lib.run_eql_slice_nil w _ _ a n c n' c' Try.underlying25
theorem Clone_T (A : Option Addr) (c : Nat) (l : List S41) (w : World) (hC : Kd.C k41 w A l.length l) (hc : l.length ≤ c) (hn : l.length ≤ 1099511627776) :
    Calls Try.prog 47 #[.slice A l.length c] w fun e w' => ∃ v, e = .returned v ∧ Kd.R (oldK k41 w) 41 w' w.heap.size (fun _ => True) v l ∧ Below w.heap.size w w' := by
  cases A with
  | none =>
    have hl : l = [] := by
      rcases Nat.eq_zero_or_pos l.length with h | h
      · exact List.length_eq_zero_iff.1 h
      · obtain ⟨_, h1, _⟩ := hC.2.2 h; cases h1
    subst hl
    clear hC
    have q25 := q25
    go_enter Try.func47, Try.ntmps47
    go_wp2
    go_ret
    exact ⟨_, rfl, Kd.R_nil _ _ _ _ _, Below.refl _ _⟩
  | some ad =>
    have HC := Aside0.mk hC
    clear hC
    have q25 := q25
    go_enter Try.func47, Try.ntmps47
    have hz := heap_alloc_new w (.cells #[] 41)
    have HR0 : Aside0 (Kd.R (oldK k41 w) 41 (w.alloc (.cells #[] 41)) w.heap.size (fun _ => True) (.slice (some ⟨w.heap.size, 0, none⟩) 0 0) []) := ⟨⟨fun _ _ => trivial, [], ⟨rfl, .inr ⟨w.heap.size, 0, #[], rfl, Nat.le_refl _, hz, Nat.le_refl _, Nat.zero_le _, rfl, rfl⟩⟩, Reps.none _ _⟩⟩
    have HB0 := Aside0.mk (below_alloc (Below.refl w.heap.size w) (.cells #[] 41))
    clear hz
    go_wp2_with ((with_reducible refine gate_builtin (b := .append) (xs := #[.tmp 5, .tmp 6]) rfl ?_); at_builtin; refine show_goal ?_)
    refine Aside0.mk ?_
    refine Kd.R_append_rows (oldK k41 w) (w0 := w) (Rr := k41.K w) w.heap.size ?_ (.tmp 5) (.tmp 6) 25 41 (.agg #[(.bool false), (.slice none 0 0)]) 32 ?_ ?_ ?_ ?_ ?_ ?_ (.slice (some ⟨w.heap.size, 0, none⟩) 0 0) ([] : List S41) l (some ad) l.length c (fun _ => True) (fun _ => False) ?_ ?_ ?_ ?_ ?_ ?_ ?_ ?_ ?_ ?_ ?_
    · rfl
    · rfl
    · exact Try.underlying25
    · exact info41
    · rfl
    · exact Nat.zero_lt_succ 1
    · exact Nat.zero_lt_succ 31
    · rfl
    · rfl
    · exact HR0.out
    · exact ReadsRow.imp_ HC.out HB0.out (fun _ _ h => h)
    · exact fun _ _ h => h
    · exact fun _ h => h.elim
    · exact fun _ _ => trivial
    · exact HB0.out
    · exact HB0.out.size
    · simp; omega
    intro v1 w1 hR1 hb1 hg1 hat1
    have HR1 := Aside0.mk hR1
    have HB1 := Aside0.mk hb1
    clear hR1 hb1 hg1 hat1
    go_wp2
    go_ret
    exact ⟨_, rfl, by simpa using HR1.out, HB1.out⟩
theorem oldR_cells {α : Type} {d : Kd α} {w0 : World} {e b g n c : Nat} {ok : Nat → Prop} {l : List α} : ∀ (vs : List Value) (o : Nat) (w : World), Kd.R (oldK d w0) e w b ok (.slice (some ⟨g, 0, none⟩) n c) l → l.length * d.sz ≤ o → Kd.R (oldK d w0) e (w.setCells g o vs) b ok (.slice (some ⟨g, 0, none⟩) n c) l ∧ w.grownBy (w.setCells g o vs) (some g)
  | [], o, w, h, _ => ⟨h, World.grownBy.refl _ _⟩
  | v :: r, o, w, h, ho => by
    obtain ⟨h0, inner, hw, hr⟩ := h
    have hil : inner.length = l.length * d.sz := hr.1
    have hnl : n = l.length := by
      rcases hw.2 with ⟨h1, _⟩ | ⟨_, _, _, h1, _⟩
      · cases h1
      · injection h1
    subst hnl
    obtain ⟨ho1, hg1⟩ := World.ownsRow.stored hw o v
    rw [List.set_eq_of_length_le (by omega)] at ho1
    obtain ⟨h2, hg2⟩ := oldR_cells r (o + 1) (w.setCell ⟨g, o, none⟩ v) ⟨h0, inner, ho1, hr⟩ (by omega)
    exact ⟨h2, hg1.trans hg2⟩
theorem ownD {w w0 : World} {b g c : Nat} {ok : Nat → Prop} {l : List S41} (h : Kd.R (oldK k41 w0) 41 w b ok (.slice (some ⟨g, 0, none⟩) l.length c) l) (i : Nat) (hi : i < l.length) :
    ∃ A0 c0, k41.K w0 l[i] [.bool l[i].f0, .slice A0 l[i].f1.length c0] ∧ w.cell? ⟨g, i * 2, none⟩ = some (.bool l[i].f0) ∧ w.cell? ⟨g, i * 2 + 1, none⟩ = some (.slice A0 l[i].f1.length c0) := by
  obtain ⟨A, c', he, _, hC⟩ := Kd.R_reads h
  injection he with h1 _ _
  subst h1
  obtain ⟨ad, cs, e, _, hK, hc⟩ := Kd.C_get hC z41 (i : Int) (by omega) (by omega)
  cases e
  have hK : k41.K w0 (rd_T41 l (i : Int)) cs := hK
  rw [rdD_at l i hi] at hK
  have hK' := hK
  obtain ⟨A0, c0, rfl, _, _⟩ := k41_open hK
  refine ⟨A0, c0, hK', ?_, ?_⟩
  · have := hc 0 _ rfl
    rw [add0] at this
    exact this
  · have := hc 1 _ rfl
    rw [add0] at this
    exact this
theorem ownBlkD {w w0 : World} {b g c : Nat} {ok : Nat → Prop} {l : List S41} (h : Kd.R (oldK k41 w0) 41 w b ok (.slice (some ⟨g, 0, none⟩) l.length c) l) : ∃ cur : Array Value, w.heap[g]? = some (.cells cur 41 (0, 0)) ∧ cur.size = c * 2 ∧ l.length ≤ c ∧ b ≤ g := by
  obtain ⟨_, inner, ho, _⟩ := h
  rcases ho.2 with ⟨h1, _⟩ | ⟨g', cap', cur, he, hb, hh, hn, hcm, hcs, _⟩
  · cases h1
  · injection he with h1 h2 h3
    injection h1 with h1
    injection h1 with h1 _ _
    subst h1; subst h3
    exact ⟨cur, hh, hcs, hn, hb⟩
theorem R_own41 {w w0 : World} {b n c : Nat} {ok : Nat → Prop} {A : Option Addr} {l : List S41} (h : Kd.R (oldK k41 w0) 41 w b ok (.slice A n c) l) (hl : 0 < l.length) : ∃ g, A = some ⟨g, 0, none⟩ ∧ ok g ∧ n = l.length := by
  obtain ⟨h0, inner, ho, _⟩ := h
  rcases ho.2 with ⟨_, hn⟩ | ⟨g, cap, cur, he, _⟩
  · omega
  · injection he with h1 h2 h3
    subst h1
    exact ⟨g, rfl, h0 g rfl, h2⟩
theorem liveV_all {l : List S41} (h : ∀ d ∈ l, d.f0 = false) : liveV l = l := List.filter_eq_self.2 fun d hd => by simp [h d hd]
theorem liveV_t {l : List S41} {j : Nat} (hj : j < l.length) (h : l[j].f0 = true) : liveV (l.take (j + 1)) = liveV (l.take j) := by
  rw [liveV, List.take_succ_eq_append_getElem hj, List.filter_append]; simp [h, liveV]
theorem liveV_f {l : List S41} {j : Nat} (hj : j < l.length) (h : l[j].f0 = false) : liveV (l.take (j + 1)) = liveV (l.take j) ++ [l[j]] := by
  rw [liveV, List.take_succ_eq_append_getElem hj, List.filter_append]; simp [h, liveV]
theorem run_clear_k {P : Program} (w : World) (t e ty : TypeId) (zc : Array Value) (ht : P.underlying t = some (.slice e)) (hv : ∀ w, (zeroValue e).run P w = .ok (.agg zc) w) (b o n c : Nat) (hn : 0 < n) (vs : List Value) (hvs : vs = (Builtin.zeroCells zc n).toList)
    (hst : (storeCells ⟨b, o, none⟩ vs 0).run P w = .ok () (w.setCells b o vs)) :
    (Builtin.clear_ #[t] ty #[.slice (some ⟨b, o, none⟩) n c]).run P w = .ok (.tuple #[]) (w.setCells b o vs) := by
  subst hvs
  obtain ⟨m, rfl⟩ : ∃ m, n = m + 1 := ⟨n - 1, by omega⟩
  have hc : (Value.agg zc).cells = zc := by simp [Value.cells]
  simp [Builtin.clear_, run_underlying ht, hv, hc, hst]
theorem zero41 (w : World) : (zeroValue 41).run Try.prog w = .ok (.agg #[.bool false, .slice none 0 0]) w := by kernel_rfl
theorem zero_one {zc : Array Value} (hz : ∀ u ∈ zc, u.oneCell' = true) (n : Nat) : ∀ v ∈ (Builtin.zeroCells zc n).toList, v.oneCell' = true := by
  intro v hv
  rw [Array.mem_toList_iff] at hv
  unfold Builtin.zeroCells at hv
  obtain ⟨q, hq, rfl⟩ := Array.mem_map.1 hv
  have hq2 : q < n * zc.size := by simpa using hq
  have hz0 : 0 < zc.size := by
    rcases Nat.eq_zero_or_pos zc.size with h0 | h0
    · rw [h0] at hq2; simp at hq2
    · exact h0
  rw [getElem!_pos zc (q % zc.size) (Nat.mod_lt _ hz0)]
  exact hz _ (Array.getElem_mem _)
theorem below_grown {w0 w w' : World} {g : Nat} (hb : Below w0.heap.size w0 w) (hg : w.grownBy w' (some g)) (hgb : w0.heap.size ≤ g) : Below w0.heap.size w0 w' :=
  ⟨hg.os.trans hb.os, hg.tape.trans hb.tape, hg.output.trans hb.output, Nat.le_trans hb.size hg.size, fun k hk => (hg.block k (Nat.lt_of_lt_of_le hk hb.size) (fun e => by cases e; omega)).trans (hb.block k hk)⟩
theorem drop_get {ys l : List S41} {j : Nat} (h : ys.drop j = l.drop j) (hy : j < ys.length) (hl : j < l.length) : ys[j] = l[j] ∧ ys.drop (j + 1) = l.drop (j + 1) := by
  rw [List.drop_eq_getElem_cons hy, List.drop_eq_getElem_cons hl] at h
  injection h with h1 h2
  exact ⟨h1, h2⟩
theorem take_set_ge {ys : List S41} {i : Nat} {d : S41} (hi : i < ys.length) : (ys.set i d).take (i + 1) = ys.take i ++ [d] := by
  rw [List.take_succ_eq_append_getElem (by simpa using hi), List.take_set_of_le (Nat.le_refl i)]
  simp
theorem DeleteFunc_T (w0 w : World) (ok : Nat → Prop) (v : Value) (l : List S41) (hR : Kd.R (oldK k41 w0) 41 w w0.heap.size ok v l) (hb : Below w0.heap.size w0 w) (hl : l.length ≤ 1099511627776) :
    Calls Try.prog 48 #[v, .func (.func 49) #[] #[]] w fun e w' => ∃ v', e = .returned v' ∧ Kd.R (oldK k41 w0) 41 w' w0.heap.size ok v' (liveV l) ∧ w.grownBy w' v.ownBlock := by
  obtain ⟨A, c, hv, hlc, hC⟩ := Kd.R_reads hR
  subst hv
  have hI := IndexFunc49_T A c l w (oldK_C hC hb) (by omega)
  have HR := Aside0.mk hR
  have HB := Aside0.mk hb
  have HLC := Aside0.mk hlc
  clear hR hb hC
  go_enter Try.func48, Try.ntmps48
  go_wp2_with fail
  refine hI.mono ?_
  rintro e w1 ⟨hb1, hr⟩
  have HB1 := Aside0.mk hb1
  clear hI hb1
  rcases hr with ⟨rfl, hall⟩ | ⟨i0, hi0, rfl, hp0, hbef⟩
  · have HALL := Aside0.mk hall
    clear hall hlc
    go_wp2
    go_ret
    exact ⟨_, rfl, by rw [liveV_all HALL.out]; exact Kd.R_below HR.out HB1.out, grown_of_below HB1.out _⟩
  · obtain ⟨g, hA, hok, _⟩ := R_own41 HR.out (by omega)
    subst hA
    have HR1 := Aside0.mk (Kd.R_below HR.out HB1.out)
    have HG1 := Aside0.mk (grown_of_below HB1.out (some g))
    have HT1 : Aside0 (l.take i0 = liveV (l.take (i0 + 1))) := ⟨by
      rw [liveV_t hi0 hp0, liveV_all]
      intro d hd
      obtain ⟨j, hj, rfl⟩ := List.getElem_of_mem hd
      rw [List.length_take] at hj
      rw [List.getElem_take]
      exact hbef j (by omega)⟩
    have hne : ((i0 : Int) == -1) = false := beq_eq_false_iff_ne.2 (by omega)
    have HI0 := Aside0.mk hi0
    clear hp0 hbef
    go_wp2
    clear hne
    go_loopg [5, 6] l.length (fun kx a b wr => ∃ (i j : Nat) (ys : List S41), a = .int .i64 i ∧ b = .int .i64 j ∧ i < j ∧ j ≤ l.length ∧ l.length - j ≤ kx ∧ ys.length = l.length ∧ Aside0 (Kd.R (oldK k41 w0) 41 wr w0.heap.size ok (.slice (some ⟨g, 0, none⟩) l.length c) ys) ∧ Aside0 (w.grownBy wr (some g)) ∧ Aside0 (ys.take i = liveV (l.take j)) ∧ Aside0 (ys.drop j = l.drop j))
    case atStart => exact ⟨i0, i0 + 1, l, rfl, by go_num, by omega, HI0.out, by omega, rfl, HR1, HG1, HT1, ⟨rfl⟩⟩
    case round =>
      obtain ⟨i, j, ys, rfl, rfl, hij, hj, hkx, hys, HR2, HG2, HT2, HD2⟩ := hrel
      clear HR1 HG1 HT1 HI0
      have HR2' : Kd.R (oldK k41 w0) 41 wr w0.heap.size ok (.slice (some ⟨g, 0, none⟩) ys.length c) ys := by rw [hys]; exact HR2.out
      obtain ⟨cur, hbk, hcs, hyc, hgb⟩ := ownBlkD HR2'
      have hBr := below_grown HB.out HG2.out hgb
      by_cases hlt : j < l.length
      · obtain ⟨A0, cc, hK, x0, x1⟩ := ownD HR2' j (by omega)
        obtain ⟨hyj, hdr⟩ := drop_get HD2.out (by omega) hlt
        rw [hyj] at hK x0 x1
        have HLT := Aside0.mk (fun h => liveV_t hlt h)
        have HLF := Aside0.mk (fun h => liveV_f hlt h)
        generalize l[j] = d at *
        obtain ⟨A0', cc', e0, hccl, hCd⟩ := k41_open hK
        cases e0
        have hj0 : (0 : Int) ≤ (j : Int) := by omega
        have hj1 : (j : Int) < (l.length : Int) := by omega
        have hi0' : (0 : Int) ≤ (i : Int) := by omega
        have hi1' : (i : Int) < (l.length : Int) := by omega
        have hB1' := below_alloc (Below.refl _ wr) (.cells #[.bool d.f0, .slice A0 d.f1.length cc] 41)
        have hbx := heap_alloc_new wr (.cells #[.bool d.f0, .slice A0 d.f1.length cc] 41)
        have e0 := (blk_cell hbx 0).trans rfl
        have e1 := (blk_cell hbx 1).trans rfl
        have hcl := merge_Live_1.calls d.f0 A0 cc d.f1 d.f0 (wr.alloc (.cells #[.bool d.f0, .slice A0 d.f1.length cc] 41)) (Kd.C_below hCd (below_then hBr hBr.size hB1')) hccl rfl
        have HBX := Aside0.mk hbx
        have HB1' := Aside0.mk hB1'
        have HK := Aside0.mk hK
        have HBK := Aside0.mk hbk
        have HIC : Aside0 (i * 2 + 1 < cur.size) := ⟨by omega⟩
        have HYS := Aside0.mk hys
        have HDR := Aside0.mk hdr
        have HGB := Aside0.mk hgb
        generalize d.f0 = b at *
        clear hbx hB1' hK hbk hcs hyc hys hdr hgb hCd hccl hyj HR2'
        cases b with
        | true =>
          have HT3 := Aside0.mk (HT2.out.trans (HLT.out rfl).symm)
          clear HT2 HLT HLF
          go_wp2_with fail
          refine hcl.mono ?_
          rintro e w2 ⟨rfl, hb2⟩
          have HB2 := Aside0.mk (below_then HB1'.out HB1'.out.size hb2)
          clear hcl hb2
          go_wp2
          go_roundg (l.length - (j + 1))
          case measure => omega
          case rel => exact ⟨i, j + 1, ys, rfl, by go_num, by omega, by omega, by omega, HYS.out, ⟨Kd.R_below HR2.out HB2.out⟩, ⟨HG2.out.trans (grown_of_below HB2.out _)⟩, HT3, HDR⟩
        | false =>
          have HL2 := Aside0.mk (HLF.out rfl)
          have HT3 : Aside0 ((ys.set i d).take (i + 1) = liveV (l.take (j + 1))) := ⟨by rw [take_set_ge (by have := HYS.out; omega), HT2.out, HL2.out]⟩
          clear HLT HLF HL2 HT2
          have HB1 := HB1'
          go_wp2_with fail
          refine hcl.mono ?_
          rintro e w2 ⟨rfl, hb2⟩
          have hb3 := below_then HB1.out HB1.out.size hb2
          have hbx2 := blk_below HBX.out hb2
          have hbk2 := blk_below HBK.out hb3
          have b0 := (blk_cell hbx2 0).trans rfl
          have b1 := (blk_cell hbx2 1).trans rfl
          have f0 := blk_frozen hbk2 (i * 2)
          have f1 := blk_frozen hbk2 (i * 2 + 1)
          obtain ⟨v0, y0⟩ := blkSome hbk2 (o := i * 2) (by have := HIC.out; omega)
          obtain ⟨v1, y1⟩ := blkSome hbk2 (o := i * 2 + 1) HIC.out
          have HR3 : Aside0 (Kd.R (oldK k41 w0) 41 w2 w0.heap.size ok (.slice (some ⟨g, 0, none⟩) l.length c) ys) := ⟨Kd.R_below HR2.out hb3⟩
          have HPUT := Aside0.mk (oldR_put (rfl : k41.sz = 2) HR3.out (show i < ys.length by have := HYS.out; omega) HK.out)
          have HB2 := Aside0.mk hb3
          have HDR3 : Aside0 ((ys.set i d).drop (j + 1) = l.drop (j + 1)) := ⟨by rw [List.drop_set_of_lt (by omega)]; exact HDR.out⟩
          clear hcl hb2 hb3 hbx2 hbk2 HDR
          go_wp2
          go_roundg (l.length - (j + 1))
          case measure => omega
          case rel => exact ⟨i + 1, j + 1, ys.set i d, by go_num, by go_num, by omega, by omega, by omega, by rw [List.length_set]; exact HYS.out, ⟨HPUT.out.1⟩, ⟨(HG2.out.trans (grown_of_below HB2.out _)).trans HPUT.out.2⟩, HT3, HDR3⟩
      · have hjl : j = l.length := by omega
        subst hjl
        have hlt2 : (i : Int) < (l.length : Int) := by omega
        have hi0' : (0 : Int) ≤ (i : Int) := by omega
        have hi1' : (i : Int) ≤ (l.length : Int) := by omega
        have hlc' : (l.length : Int) ≤ (c : Int) := by omega
        have hne2 : ¬ c = i := by omega
        have nz : (Builtin.zeroCells #[.bool false, .slice none 0 0] (l.length - i)).toList.length = (l.length - i) * 2 := by
          rw [Array.length_toList, size_zeroCells]; rfl
        have hR5 := oldR_cells (Builtin.zeroCells #[.bool false, .slice none 0 0] (l.length - i)).toList (i * 2) wr (Kd.R_take HR2' (m := i) (by omega)) (by rw [List.length_take]; show min i ys.length * 2 ≤ i * 2; omega)
        have hst := run_storeCells_cells (P := Try.prog) g (i * 2) (Builtin.zeroCells #[.bool false, .slice none 0 0] (l.length - i)).toList 0 wr (fun q hq => by rw [nz] at hq; obtain ⟨v, hv⟩ := blkSome hbk (o := i * 2 + 0 + q) (by omega); rw [hv]; rfl) (fun q hq => blk_frozen hbk _) (zero_one (by intro u hu; simp at hu; rcases hu with rfl | rfl <;> rfl) _)
        have hcl : ∀ ty c, (Builtin.clear_ #[25] ty #[.slice (some ⟨g, i * 2, none⟩) (l.length - i) c]).run Try.prog wr = .ok (.tuple #[]) (wr.setCells g (i * 2) (Builtin.zeroCells #[.bool false, .slice none 0 0] (l.length - i)).toList) := fun ty c =>
          run_clear_k wr 25 41 ty _ Try.underlying25 zero41 g (i * 2) (l.length - i) c (by omega) _ rfl (by rw [Nat.add_zero] at hst; exact hst)
        have HR5 := Aside0.mk hR5
        have HYS := Aside0.mk hys
        clear hst nz hR5 hbk hcs hyc hgb hBr HR2' hys
        go_wp2
        go_ret
        have hr := HR5.out.1
        rw [HT2.out, List.take_length] at hr
        exact ⟨_, rfl, hr, HG2.out.trans HR5.out.2⟩
/-- merge.Live -/
theorem Live_T (A : Option Addr) (c : Nat) (l : List S41) (w : World) (hC : Kd.C k41 w A l.length l) (hc : l.length ≤ c) (hn : l.length ≤ 1099511627776) :
    Calls Try.prog 20 #[.slice A l.length c] w fun e w' => Below w.heap.size w w' ∧ ∃ A' c', e = .returned (.slice A' (liveV l).length c') ∧ (liveV l).length ≤ c' ∧ Kd.C k41 w' A' (liveV l).length (liveV l) := by
  have hcl := Clone_T A c l w hC hc hn
  clear hC
  go_enter Try.func20, Try.ntmps20
  go_wp2_with fail
  refine hcl.mono ?_
  rintro e w1 ⟨v1, rfl, hR1, hb1⟩
  have hdf := DeleteFunc_T w w1 _ v1 l hR1 hb1 hn
  have HR1 := Aside0.mk hR1
  have HB1 := Aside0.mk hb1
  clear hcl hR1 hb1
  go_wp2_with fail
  refine hdf.mono ?_
  rintro e w2 ⟨v2, rfl, hR2, hg2⟩
  have HFIN : Aside0 (Below w.heap.size w w2 ∧ ∃ A' c', v2 = .slice A' (liveV l).length c' ∧ (liveV l).length ≤ c' ∧ Kd.C k41 w2 A' (liveV l).length (liveV l)) := ⟨by
    have hb : Below w.heap.size w w2 := ⟨hg2.os.trans HB1.out.os, hg2.tape.trans HB1.out.tape, hg2.output.trans HB1.out.output, Nat.le_trans HB1.out.size hg2.size, fun k hk => (hg2.block k (Nat.lt_of_lt_of_le hk HB1.out.size) (fun e => by
      obtain ⟨_, inner, ho, _⟩ := HR1.out
      have := own_base ho k e.symm
      omega)).trans (HB1.out.block k hk)⟩
    obtain ⟨A', c', e, hl, hC⟩ := Kd.R_reads hR2
    exact ⟨hb, A', c', e, hl, oldK_C hC hb⟩⟩
  clear hdf hR2 hg2
  obtain ⟨A', c', e, h1, h2⟩ := HFIN.out.2
  subst e
  have H12 := Aside0.mk (And.intro h1 h2)
  clear h1 h2
  go_wp2
  go_ret
  exact ⟨HFIN.out.1, A', c', rfl, H12.out.1, H12.out.2⟩
end Go.Proofs.Ythlelhndmnkmjaa.Pr
end
section
namespace Go.Proofs.Ythlelhndmnkmjaa.Pr
open Go.RowKit Go.Proofs.Ythlelhndmnkmjaa.Brid Go.Proofs.YthlelhndmnkmjaaW.PrintWords Go.Proofs.YthlelhndmnkmjaaW.PrintLast Go.Proofs.YthlelhndmnkmjaaW.PrintMore
set_option linter.unusedVariables false
set_option linter.unusedSimpArgs false
set_option maxHeartbeats 4000000
set_option maxRecDepth 100000
attribute [local go_sem] Oper.semAt_some
/-! A range over a function, at the wide fence, whose rounds are told something of what they are handed. -/
theorem keepsFrom_belowR {B : Nat} {a b : World} (h : Below a.heap.size a b) : KeepsFrom B a b := ⟨h.size, fun k o _ hk _ => (h.block k (Array.getElem?_eq_some_iff.1 hk).1).trans hk⟩
theorem keepsFrom_mono {B B' : Nat} {a b : World} (h : KeepsFrom B a b) (hB : B ≤ B') : KeepsFrom B' a b := ⟨h.size, fun k o hk ho hc => h.same k o (Nat.le_trans hB hk) ho hc⟩
theorem keepsFrom_putLow {B : Nat} (a : World) {l : Nat} (hl : l < B) (o : Obj) : KeepsFrom B a (a.putObj l o) := ⟨by simp, fun k o' hk ho _ => (World.putObj_heap_other (by omega)).trans ho⟩
/-- the contract of what is ranged over: each round is made in a world that is Good for what it is handed; what a round that goes on may turn: X -/
def SeqG {α : Type} (P : Program) (g : Nat) (lb : Array Value) (encs : α → Array Value) (Good : List α → α → World → Prop) (X : Nat → Prop) (S Sp : List α → Prop) (w : World) : Prop :=
  ∀ (l : Nat) (J Jx : List α → World → Prop) (W : World), Below w.heap.size w W → W.heap.size = w.heap.size + 2 → OwnFrom W.heap.size J → OwnFrom W.heap.size Jx →
    (∀ pre x V, J pre V → Good pre x V → W.heap.size ≤ V.heap.size → YieldAt Fence.wide 0 P l (encs x) V fun e V' =>
      (e = .returned (.bool true) ∧ J (pre ++ [x]) V' ∧ Fr X V V' ∧ KeepsFrom W.heap.size V V') ∨ (e = .returned (.bool false) ∧ Jx (pre ++ [x]) V' ∧ Fr X V V' ∧ KeepsFrom W.heap.size V V')) →
    J [] W →
    Calls P g (#[.func (.yield l) #[] #[]] ++ lb) W fun e V => (∃ v, e = .returned v) ∧ ((∃ xs, S xs ∧ J xs V) ∨ (∃ pre, Sp pre ∧ Jx pre V))
/-- how a round's body may be left -/
def postG {α : Type} (B : Nat) (X : Nat → Prop) (I : List α → World → Prop) (Ix : Code → List α → World → Prop) (xs : List α) (W : World) : Exit → Act → World → Prop
  | .normal, _, V => KeepsFrom B W V ∧ Fr X W V ∧ I xs V
  | .ret, _, V => KeepsFrom B W V ∧ Fr X W V ∧ Ix .ret xs V
  | .exit id, _, V => KeepsFrom B W V ∧ Fr X W V ∧ Ix (.exit id) xs V
  | _, _, _ => False
theorem Fr.putObj {X : Nat → Prop} {a b : World} (h : Fr X a b) {l : Nat} (hl : X l) (o : Obj) : Fr X a (b.putObj l o) :=
  ⟨h.os, h.tape, h.output, by simpa using h.size, fun i hi hn => (World.putObj_heap_other (fun e => hn (by rw [e]; exact hl))).trans (h.block i hi hn)⟩
theorem Fr.refl (X : Nat → Prop) (w : World) : Fr X w w := ⟨rfl, rfl, rfl, Nat.le_refl _, fun _ _ _ => rfl⟩
theorem wp_rangeG {α : Type} {P : Program} {g : Operand} {ps : Array Tmp} {assign body : Code} {Q : Exit → Act → World → Prop} {a : Act} {w : World} {gf : Nat} {lb : Array Value}
    (hg : a.eval g = .func (.func gf) #[] lb) (eg : ∀ args w, (callFunc gf args).run P w = .ok (.enter gf args) w)
    {encs : α → Array Value} {Good : List α → α → World → Prop} {X : Nat → Prop} {S Sp : List α → Prop} (hseq : SeqG P gf lb encs Good X S Sp w) (hX0 : X w.heap.size) (hX1 : X (w.heap.size + 1)) (hps : ∀ x, (encs x).size = ps.size)
    (I : List α → World → Prop) (Ix : Code → List α → World → Prop) (hI : OwnFrom w.heap.size I) (hIx : ∀ c, OwnFrom w.heap.size (Ix c)) (h0 : I [] w)
    (Ax : List α → α → Act → World → Prop) (hAx : ∀ pre x a', OwnFrom w.heap.size (fun (_ : Unit) W => Ax pre x a' W))
    (hassign : ∀ (l : Nat) (pre : List α) (x : α) (W : World) (K : Act → World → Prop), I pre W → Good pre x W → w.heap.size + 2 ≤ W.heap.size → (∀ a' V, KeepsFrom w.heap.size W V → Fr X W V → I pre V → Ax pre x a' V → K a' V) →
      assign.wpIn (Fence.wide.inRound l) 0 P (Exit.then K (fun _ _ _ => False)) { tmps := (ps.zip (encs x)).foldl (fun t (p, v) => t.setIfInBounds p v) a.tmps, defers := [] } W)
    (hbody : ∀ (l : Nat) (pre : List α) (x : α) (a' : Act) (W : World), I pre W → Ax pre x a' W → w.heap.size + 2 ≤ W.heap.size → body.wpIn (Fence.wide.inRound l) 0 P (postG w.heap.size X I Ix (pre ++ [x]) W) a' W)
    (hdone : ∀ (xs : List α) (W : World), S xs → I xs W → W.heap[w.heap.size]? = some (.deferred (some [])) → Q .normal { a with defers := { target := .collected w.heap.size, args := #[] } :: a.defers } W)
    (hstop : ∀ (c : Code) (pre : List α) (W : World), Sp pre → Ix c pre W → W.heap[w.heap.size]? = some (.deferred (some [])) → c.wp P Q { a with defers := { target := .collected w.heap.size, args := #[] } :: a.defers } W) :
    (Code.rangeFunc g ps assign body).wp P Q a w := by
  refine (wpIn_wide (n := 1)).1 (wpIn_rangeFunc fun fn _ => ?_)
  obtain ⟨R, hR⟩ : ∃ R : LoopState → Option Code → Loop, R = fun st pe => { state := st, pending := pe, fn, tmps := a.tmps, params := ps, assign, body, defers := w.heap.size } := ⟨_, rfl⟩
  have eD : (w.alloc (.deferred (some []))).heap.size = w.heap.size + 1 := by simp
  have hL0 : ((w.alloc (.deferred (some []))).alloc (.loop (R .ready none))).heap[w.heap.size + 1]? = some (.loop (R .ready none)) := by
    have := World.alloc_heap_new (w.alloc (.deferred (some []))) (.loop (R .ready none))
    rw [eD] at this; exact this
  have hD0 : ((w.alloc (.deferred (some []))).alloc (.loop (R .ready none))).heap[w.heap.size]? = some (.deferred (some [])) :=
    (Below.heap_alloc _ _ _ (by simp)).trans (World.alloc_heap_new w _)
  have hB0 : Below w.heap.size w ((w.alloc (.deferred (some []))).alloc (.loop (R .ready none))) := below_alloc (below_alloc (Below.refl _ _) _) _
  have hI0 : I [] ((w.alloc (.deferred (some []))).alloc (.loop (R .ready none))) := hI.alloc _ (hI.alloc _ h0)
  have hZ0 : ((w.alloc (.deferred (some []))).alloc (.loop (R .ready none))).heap.size = w.heap.size + 2 := by simp
  refine ⟨w.heap.size + 1, [{ target := .collected w.heap.size, args := #[] }], ((w.alloc (.deferred (some []))).alloc (.loop (R .ready none))), { target := .fn (.func gf) lb, args := #[.func (.yield (w.heap.size + 1)) #[] #[]] }, ((w.alloc (.deferred (some []))).alloc (.loop (R .ready none))), gf, #[.func (.yield (w.heap.size + 1)) #[] #[]] ++ lb, ((w.alloc (.deferred (some []))).alloc (.loop (R .ready none))), ?_, ?_, fun _ _ => trivial, ?_, fun h => absurd h (by simp [Fence.wide]), ?_⟩
  · rw [hR]; exact run_enterLoop_outer _ _ _ _ _
  · simp only [resolve, hg]
    simp [go_sem]
  · simp [invoke, go_sem, eg]
  refine callsIn_wide.2 ?_
  generalize (w.alloc (.deferred (some []))).alloc (.loop (R .ready none)) = W0 at *
  have hfar : ∀ {A B : World} {row : Option Nat} {k : Nat} {o : Obj}, A.grownBy B row → (∀ r, row = some r → W0.heap.size ≤ r ∧ ∃ o : Obj, A.heap[r]? = some o ∧ o.isCells = false) → k < W0.heap.size → A.heap[k]? = some o → B.heap[k]? = some o :=
    fun hgr hr hk ho => (hgr.block _ (Array.getElem?_eq_some_iff.1 ho).1 (fun e => by have := (hr _ e.symm).1; omega)).trans ho
  have hlow : ∀ {row : Option Nat} {A : World}, (∀ r, row = some r → W0.heap.size ≤ r ∧ ∃ o : Obj, A.heap[r]? = some o ∧ o.isCells = false) → (∀ r, row = some r → w.heap.size ≤ r ∧ ∃ o : Obj, A.heap[r]? = some o ∧ o.isCells = false) :=
    fun hr r e => ⟨by have := (hr r e).1; omega, (hr r e).2⟩
  refine (hseq (w.heap.size + 1)
    (fun pre W => I pre W ∧ W.heap[w.heap.size + 1]? = some (.loop (R .ready none)) ∧ W.heap[w.heap.size]? = some (.deferred (some [])))
    (fun pre W => ∃ c, Ix c pre W ∧ W.heap[w.heap.size + 1]? = some (.loop (R .done (some c))) ∧ W.heap[w.heap.size]? = some (.deferred (some [])))
    W0 hB0 hZ0
    (fun s A B row hs hgr hr => ⟨hI s A B row hs.1 hgr (hlow hr), hfar hgr hr (by omega) hs.2.1, hfar hgr hr (by omega) hs.2.2⟩)
    (fun s A B row hs hgr hr => by
      obtain ⟨c, h1, h2, h3⟩ := hs
      exact ⟨c, hIx c s A B row h1 hgr (hlow hr), hfar hgr hr (by omega) h2, hfar hgr hr (by omega) h3⟩)
    ?_ ⟨hI0, hL0, hD0⟩).mono ?_
  · -- a round
    rintro pre x V ⟨hi, hl, hd⟩ hgood hVs
    have hlt : w.heap.size + 1 < V.heap.size := (Array.getElem?_eq_some_iff.1 hl).1
    have hy := run_yield (P := P) (args := encs x) hl (by rw [hR]; exact hps x)
    rw [hR] at hy
    refine ⟨fn, _, assign, body, hy, roundIn_of_wpIn (n := 0) trivial (hassign _ pre x V _ hi hgood (by omega) fun a' V1 hk1 hf1 hi1 hA1 => ?_)⟩
    have hl1 := hk1.same _ _ (Nat.le_succ _) hl rfl
    have hd1 := hk1.same _ _ (Nat.le_refl _) hd rfl
    have hlt1 : w.heap.size + 1 < V1.heap.size := (Array.getElem?_eq_some_iff.1 hl1).1
    refine ⟨_, run_beginRound hl1 (by rw [hR]), ?_⟩
    have hl2 : (V1.putObj (w.heap.size + 1) (.loop { R .ready none with state := .busy })).heap[w.heap.size + 1]? = some (.loop { R .ready none with state := .busy }) := World.putObj_heap_same hlt1
    have hd2 : (V1.putObj (w.heap.size + 1) (.loop { R .ready none with state := .busy })).heap[w.heap.size]? = some (.deferred (some [])) := (World.putObj_heap_other (by omega)).trans hd1
    have hf2 := hf1.putObj hX1 (.loop { R .ready none with state := .busy })
    have hi2 := hI.putObj (.loop { R .ready none with state := .busy }) hi1 (Nat.le_succ _) hl1 rfl
    have hA2 := (hAx pre x a').putObj (s := ()) (.loop { R .ready none with state := .busy }) hA1 (Nat.le_succ _) hl1 rfl
    refine wpIn_mono (hbody _ pre x a' _ hi2 hA2 (by simp; omega)) ?_
    have fin : ∀ (jump : Option Code) (V3 : World), KeepsFrom w.heap.size (V1.putObj (w.heap.size + 1) (.loop { R .ready none with state := .busy })) V3 →
        (Instr.endRound (w.heap.size + 1) jump).run P V3 = .ok (.bool jump.isNone) (V3.putObj (w.heap.size + 1) (.loop (R (if jump.isNone then .ready else .done) jump))) ∧
        V3.heap[w.heap.size + 1]? = some (.loop { R .ready none with state := .busy }) ∧
        (V3.putObj (w.heap.size + 1) (.loop (R (if jump.isNone then .ready else .done) jump))).heap[w.heap.size + 1]? = some (.loop (R (if jump.isNone then .ready else .done) jump)) ∧
        (V3.putObj (w.heap.size + 1) (.loop (R (if jump.isNone then .ready else .done) jump))).heap[w.heap.size]? = some (.deferred (some [])) := fun jump V3 hk3 => by
      have hl3 := hk3.same _ _ (Nat.le_succ _) hl2 rfl
      have h := run_endRound (P := P) jump hl3
      rw [hR] at h ⊢
      exact ⟨h, by rw [hR] at hl3; exact hl3, World.putObj_heap_same (Array.getElem?_eq_some_iff.1 hl3).1, (World.putObj_heap_other (by omega)).trans (hk3.same _ _ (Nat.le_refl _) hd2 rfl)⟩
    have hkk : ∀ {V3 : World}, KeepsFrom w.heap.size (V1.putObj (w.heap.size + 1) (.loop { R .ready none with state := .busy })) V3 → ∀ o : Obj, KeepsFrom W0.heap.size V (V3.putObj (w.heap.size + 1) o) := fun {V3} hk3 o =>
      (keepsFrom_mono hk1 (by omega)).trans ((keepsFrom_putLow V1 (by omega) _).trans ((keepsFrom_mono hk3 (by omega)).trans (keepsFrom_putLow V3 (by omega) _)))
    rintro e a3 V3 hp
    cases e with
    | normal =>
      obtain ⟨hk3, hf3, hi3⟩ := hp
      obtain ⟨hr, hl3, hl4, hd4⟩ := fin none V3 hk3
      exact ⟨_, _, hr, .inl ⟨rfl, ⟨hI.putObj _ hi3 (Nat.le_succ _) hl3 rfl, hl4, hd4⟩, (hf2.trans hf3).putObj hX1 _, hkk hk3 _⟩⟩
    | ret =>
      obtain ⟨hk3, hf3, hi3⟩ := hp
      obtain ⟨hr, hl3, hl4, hd4⟩ := fin (some .ret) V3 hk3
      exact ⟨_, _, hr, .inr ⟨rfl, ⟨.ret, (hIx _).putObj _ hi3 (Nat.le_succ _) hl3 rfl, hl4, hd4⟩, (hf2.trans hf3).putObj hX1 _, hkk hk3 _⟩⟩
    | exit id =>
      obtain ⟨hk3, hf3, hi3⟩ := hp
      obtain ⟨hr, hl3, hl4, hd4⟩ := fin (some (.exit id)) V3 hk3
      exact ⟨_, _, hr, .inr ⟨rfl, ⟨.exit id, (hIx _).putObj _ hi3 (Nat.le_succ _) hl3 rfl, hl4, hd4⟩, (hf2.trans hf3).putObj hX1 _, hkk hk3 _⟩⟩
    | goto t => exact hp.elim
    | panic ch => exact hp.elim
    | outgrown => exact hp.elim
  · -- behind it
    rintro e V2 ⟨⟨v, rfl⟩, (⟨xs, hS, hi, hl, hd⟩ | ⟨pre, hSp, c, hi, hl, hd⟩)⟩
    · have h := run_endLoop (P := P) hl (by rw [hR]; simp)
      rw [hR] at h
      exact ⟨none, _, h, hdone xs _ hS (hI.putObj _ hi (Nat.le_succ _) hl rfl) ((World.putObj_heap_other (by omega)).trans hd)⟩
    · have h := run_endLoop (P := P) hl (by rw [hR]; simp)
      rw [hR] at h
      exact ⟨some c, _, h, wpIn_wide.2 (hstop c pre _ hSp ((hIx c).putObj _ hi (Nat.le_succ _) hl rfl) ((World.putObj_heap_other (by omega)).trans hd))⟩
theorem wp_rangeH {α : Type} {P : Program} {g : Operand} {ps : Array Tmp} {assign body : Code} {Q : Exit → Act → World → Prop} {a : Act} {w : World} {gf : Nat} {lb : Array Value}
    (hg : a.eval g = .func (.func gf) #[] lb) (eg : ∀ args w, (callFunc gf args).run P w = .ok (.enter gf args) w)
    {encs : α → Array Value} {Good : List α → α → World → Prop} {X : Nat → Prop} {S Sp : List α → Prop} (hseq : SeqG P gf lb encs Good X S Sp w) (hX0 : X w.heap.size) (hX1 : X (w.heap.size + 1)) (hps : ∀ x, (encs x).size = ps.size)
    (I : List α → World → Prop) (Ix : Code → List α → World → Prop) (hI : OwnFrom w.heap.size I) (hIx : ∀ c, OwnFrom w.heap.size (Ix c)) (h0 : I [] w)
    (hround : ∀ (l : Nat) (pre : List α) (x : α) (W : World) (K : Act → World → Prop), I pre W → Good pre x W → w.heap.size + 2 ≤ W.heap.size →
      (∀ (a' : Act) (V : World) (Z : World → Prop), OwnFrom w.heap.size (fun (_ : Unit) U => Z U) → Z V → KeepsFrom w.heap.size W V → Fr X W V →
        (∀ U, Z U → w.heap.size + 2 ≤ U.heap.size → body.wpIn (Fence.wide.inRound l) 0 P (postG w.heap.size X I Ix (pre ++ [x]) U) a' U) → K a' V) →
      assign.wpIn (Fence.wide.inRound l) 0 P (Exit.then K (fun _ _ _ => False)) { tmps := (ps.zip (encs x)).foldl (fun t (p, v) => t.setIfInBounds p v) a.tmps, defers := [] } W)
    (hdone : ∀ (xs : List α) (W : World), S xs → I xs W → W.heap[w.heap.size]? = some (.deferred (some [])) → Q .normal { a with defers := { target := .collected w.heap.size, args := #[] } :: a.defers } W)
    (hstop : ∀ (c : Code) (pre : List α) (W : World), Sp pre → Ix c pre W → W.heap[w.heap.size]? = some (.deferred (some [])) → c.wp P Q { a with defers := { target := .collected w.heap.size, args := #[] } :: a.defers } W) :
    (Code.rangeFunc g ps assign body).wp P Q a w := by
  refine (wpIn_wide (n := 1)).1 (wpIn_rangeFunc fun fn _ => ?_)
  obtain ⟨R, hR⟩ : ∃ R : LoopState → Option Code → Loop, R = fun st pe => { state := st, pending := pe, fn, tmps := a.tmps, params := ps, assign, body, defers := w.heap.size } := ⟨_, rfl⟩
  have eD : (w.alloc (.deferred (some []))).heap.size = w.heap.size + 1 := by simp
  have hL0 : ((w.alloc (.deferred (some []))).alloc (.loop (R .ready none))).heap[w.heap.size + 1]? = some (.loop (R .ready none)) := by
    have := World.alloc_heap_new (w.alloc (.deferred (some []))) (.loop (R .ready none))
    rw [eD] at this; exact this
  have hD0 : ((w.alloc (.deferred (some []))).alloc (.loop (R .ready none))).heap[w.heap.size]? = some (.deferred (some [])) :=
    (Below.heap_alloc _ _ _ (by simp)).trans (World.alloc_heap_new w _)
  have hB0 : Below w.heap.size w ((w.alloc (.deferred (some []))).alloc (.loop (R .ready none))) := below_alloc (below_alloc (Below.refl _ _) _) _
  have hI0 : I [] ((w.alloc (.deferred (some []))).alloc (.loop (R .ready none))) := hI.alloc _ (hI.alloc _ h0)
  have hZ0 : ((w.alloc (.deferred (some []))).alloc (.loop (R .ready none))).heap.size = w.heap.size + 2 := by simp
  refine ⟨w.heap.size + 1, [{ target := .collected w.heap.size, args := #[] }], ((w.alloc (.deferred (some []))).alloc (.loop (R .ready none))), { target := .fn (.func gf) lb, args := #[.func (.yield (w.heap.size + 1)) #[] #[]] }, ((w.alloc (.deferred (some []))).alloc (.loop (R .ready none))), gf, #[.func (.yield (w.heap.size + 1)) #[] #[]] ++ lb, ((w.alloc (.deferred (some []))).alloc (.loop (R .ready none))), ?_, ?_, fun _ _ => trivial, ?_, fun h => absurd h (by simp [Fence.wide]), ?_⟩
  · rw [hR]; exact run_enterLoop_outer _ _ _ _ _
  · simp only [resolve, hg]
    simp [go_sem]
  · simp [invoke, go_sem, eg]
  refine callsIn_wide.2 ?_
  generalize (w.alloc (.deferred (some []))).alloc (.loop (R .ready none)) = W0 at *
  have hfar : ∀ {A B : World} {row : Option Nat} {k : Nat} {o : Obj}, A.grownBy B row → (∀ r, row = some r → W0.heap.size ≤ r ∧ ∃ o : Obj, A.heap[r]? = some o ∧ o.isCells = false) → k < W0.heap.size → A.heap[k]? = some o → B.heap[k]? = some o :=
    fun hgr hr hk ho => (hgr.block _ (Array.getElem?_eq_some_iff.1 ho).1 (fun e => by have := (hr _ e.symm).1; omega)).trans ho
  have hlow : ∀ {row : Option Nat} {A : World}, (∀ r, row = some r → W0.heap.size ≤ r ∧ ∃ o : Obj, A.heap[r]? = some o ∧ o.isCells = false) → (∀ r, row = some r → w.heap.size ≤ r ∧ ∃ o : Obj, A.heap[r]? = some o ∧ o.isCells = false) :=
    fun hr r e => ⟨by have := (hr r e).1; omega, (hr r e).2⟩
  refine (hseq (w.heap.size + 1)
    (fun pre W => I pre W ∧ W.heap[w.heap.size + 1]? = some (.loop (R .ready none)) ∧ W.heap[w.heap.size]? = some (.deferred (some [])))
    (fun pre W => ∃ c, Ix c pre W ∧ W.heap[w.heap.size + 1]? = some (.loop (R .done (some c))) ∧ W.heap[w.heap.size]? = some (.deferred (some [])))
    W0 hB0 hZ0
    (fun s A B row hs hgr hr => ⟨hI s A B row hs.1 hgr (hlow hr), hfar hgr hr (by omega) hs.2.1, hfar hgr hr (by omega) hs.2.2⟩)
    (fun s A B row hs hgr hr => by
      obtain ⟨c, h1, h2, h3⟩ := hs
      exact ⟨c, hIx c s A B row h1 hgr (hlow hr), hfar hgr hr (by omega) h2, hfar hgr hr (by omega) h3⟩)
    ?_ ⟨hI0, hL0, hD0⟩).mono ?_
  · -- a round
    rintro pre x V ⟨hi, hl, hd⟩ hgood hVs
    have hlt : w.heap.size + 1 < V.heap.size := (Array.getElem?_eq_some_iff.1 hl).1
    have hy := run_yield (P := P) (args := encs x) hl (by rw [hR]; exact hps x)
    rw [hR] at hy
    refine ⟨fn, _, assign, body, hy, roundIn_of_wpIn (n := 0) trivial (hround _ pre x V _ hi hgood (by omega) fun a' V1 Z hZo hZ1 hk1 hf1 hbody => ?_)⟩
    have hl1 := hk1.same _ _ (Nat.le_succ _) hl rfl
    have hd1 := hk1.same _ _ (Nat.le_refl _) hd rfl
    have hlt1 : w.heap.size + 1 < V1.heap.size := (Array.getElem?_eq_some_iff.1 hl1).1
    refine ⟨_, run_beginRound hl1 (by rw [hR]), ?_⟩
    have hl2 : (V1.putObj (w.heap.size + 1) (.loop { R .ready none with state := .busy })).heap[w.heap.size + 1]? = some (.loop { R .ready none with state := .busy }) := World.putObj_heap_same hlt1
    have hd2 : (V1.putObj (w.heap.size + 1) (.loop { R .ready none with state := .busy })).heap[w.heap.size]? = some (.deferred (some [])) := (World.putObj_heap_other (by omega)).trans hd1
    have hf2 := hf1.putObj hX1 (.loop { R .ready none with state := .busy })
    have hA2 := hZo.putObj (s := ()) (.loop { R .ready none with state := .busy }) hZ1 (Nat.le_succ _) hl1 rfl
    refine wpIn_mono (hbody _ hA2 (by simp; omega)) ?_
    have fin : ∀ (jump : Option Code) (V3 : World), KeepsFrom w.heap.size (V1.putObj (w.heap.size + 1) (.loop { R .ready none with state := .busy })) V3 →
        (Instr.endRound (w.heap.size + 1) jump).run P V3 = .ok (.bool jump.isNone) (V3.putObj (w.heap.size + 1) (.loop (R (if jump.isNone then .ready else .done) jump))) ∧
        V3.heap[w.heap.size + 1]? = some (.loop { R .ready none with state := .busy }) ∧
        (V3.putObj (w.heap.size + 1) (.loop (R (if jump.isNone then .ready else .done) jump))).heap[w.heap.size + 1]? = some (.loop (R (if jump.isNone then .ready else .done) jump)) ∧
        (V3.putObj (w.heap.size + 1) (.loop (R (if jump.isNone then .ready else .done) jump))).heap[w.heap.size]? = some (.deferred (some [])) := fun jump V3 hk3 => by
      have hl3 := hk3.same _ _ (Nat.le_succ _) hl2 rfl
      have h := run_endRound (P := P) jump hl3
      rw [hR] at h ⊢
      exact ⟨h, by rw [hR] at hl3; exact hl3, World.putObj_heap_same (Array.getElem?_eq_some_iff.1 hl3).1, (World.putObj_heap_other (by omega)).trans (hk3.same _ _ (Nat.le_refl _) hd2 rfl)⟩
    have hkk : ∀ {V3 : World}, KeepsFrom w.heap.size (V1.putObj (w.heap.size + 1) (.loop { R .ready none with state := .busy })) V3 → ∀ o : Obj, KeepsFrom W0.heap.size V (V3.putObj (w.heap.size + 1) o) := fun {V3} hk3 o =>
      (keepsFrom_mono hk1 (by omega)).trans ((keepsFrom_putLow V1 (by omega) _).trans ((keepsFrom_mono hk3 (by omega)).trans (keepsFrom_putLow V3 (by omega) _)))
    rintro e a3 V3 hp
    cases e with
    | normal =>
      obtain ⟨hk3, hf3, hi3⟩ := hp
      obtain ⟨hr, hl3, hl4, hd4⟩ := fin none V3 hk3
      exact ⟨_, _, hr, .inl ⟨rfl, ⟨hI.putObj _ hi3 (Nat.le_succ _) hl3 rfl, hl4, hd4⟩, (hf2.trans hf3).putObj hX1 _, hkk hk3 _⟩⟩
    | ret =>
      obtain ⟨hk3, hf3, hi3⟩ := hp
      obtain ⟨hr, hl3, hl4, hd4⟩ := fin (some .ret) V3 hk3
      exact ⟨_, _, hr, .inr ⟨rfl, ⟨.ret, (hIx _).putObj _ hi3 (Nat.le_succ _) hl3 rfl, hl4, hd4⟩, (hf2.trans hf3).putObj hX1 _, hkk hk3 _⟩⟩
    | exit id =>
      obtain ⟨hk3, hf3, hi3⟩ := hp
      obtain ⟨hr, hl3, hl4, hd4⟩ := fin (some (.exit id)) V3 hk3
      exact ⟨_, _, hr, .inr ⟨rfl, ⟨.exit id, (hIx _).putObj _ hi3 (Nat.le_succ _) hl3 rfl, hl4, hd4⟩, (hf2.trans hf3).putObj hX1 _, hkk hk3 _⟩⟩
    | goto t => exact hp.elim
    | panic ch => exact hp.elim
    | outgrown => exact hp.elim
  · -- behind it
    rintro e V2 ⟨⟨v, rfl⟩, (⟨xs, hS, hi, hl, hd⟩ | ⟨pre, hSp, c, hi, hl, hd⟩)⟩
    · have h := run_endLoop (P := P) hl (by rw [hR]; simp)
      rw [hR] at h
      exact ⟨none, _, h, hdone xs _ hS (hI.putObj _ hi (Nat.le_succ _) hl rfl) ((World.putObj_heap_other (by omega)).trans hd)⟩
    · have h := run_endLoop (P := P) hl (by rw [hR]; simp)
      rw [hR] at h
      exact ⟨some c, _, h, wpIn_wide.2 (hstop c pre _ hSp ((hIx c).putObj _ hi (Nat.le_succ _) hl rfl) ((World.putObj_heap_other (by omega)).trans hd))⟩
end Go.Proofs.Ythlelhndmnkmjaa.Pr
end
section
namespace Go.Proofs.Ythlelhndmnkmjaa.Pr
open Go.RowKit Go.Proofs.Ythlelhndmnkmjaa.Brid Go.Proofs.YthlelhndmnkmjaaW.PrintWords Go.Proofs.YthlelhndmnkmjaaW.PrintLast Go.Proofs.YthlelhndmnkmjaaW.PrintMore
set_option linter.unusedVariables false
set_option linter.unusedSimpArgs false
set_option maxHeartbeats 4000000
set_option maxRecDepth 100000
attribute [local go_sem] Oper.semAt_some
theorem pfx {α : Type} {v pre rest : List α} {x : α} (h : v = pre ++ x :: rest) : pre ++ [x] <+: v := ⟨rest, by rw [h]; simp⟩
/-- the chunks behind i: the slice's value, what it shows -/
def cutAt (ad : Addr) (k : Nat) (l : List S41) : Nat → Nat → List (Value × List S41)
  | 0, _ => []
  | f + 1, i => if i < l.length then (.slice (some (ad.add (i * 2))) (min k (l.length - i)) (min k (l.length - i)), (l.drop i).take k) :: cutAt ad k l f (i + k) else []
section
attribute [local go_sem] max2_int min2_int max_two min_two max_three min_three max_four min_four
theorem chunk_G (ad : Addr) (c k sb nb : Nat) (l : List S41) (X : Nat → Prop) (w : World) (hs : w.heap[sb]? = some (.cells #[.slice (some ad) l.length c] 25 (0, 0))) (hn : w.heap[nb]? = some (.cells #[.int .i64 k] 3 (0, 0))) (hXs : ¬ X sb) (hXn : ¬ X nb) (hk : 1 ≤ k) (hk2 : k ≤ 9223372036854775807) (hl : l.length ≤ 1099511627776) (hc : l.length ≤ c) :
    SeqG Try.prog 75 #[.pointer (some ⟨sb, 0, none⟩), .pointer (some ⟨nb, 0, none⟩)] (fun x : Value × List S41 => #[x.1]) (fun pre x _ => pre ++ [x] <+: cutAt ad k l l.length 0) X (fun xs => xs = cutAt ad k l l.length 0) (fun pre => pre <+: cutAt ad k l l.length 0) w := by
  intro l_ J Jx W hBW hZ hJ hJx hY hJ0
  clear hZ
  refine (callsIn_wide (n := 1)).1 (callsIn_of_wp Try.func75 rfl trivial ?_ rfl)
  simp only [Try.ntmps75, List.size_toArray, List.length_cons, List.length_nil, Nat.reduceAdd, Nat.reduceSub, Array.replicate_succ, Array.replicate_zero, List.push_toArray, List.append_toArray, List.nil_append, List.cons_append]
  have hsW := Aside0.mk (blk_below hs hBW)
  have hnW := Aside0.mk (blk_below hn hBW)
  have HJ0 := Aside0.mk hJ0
  have HJJ := Aside0.mk hJ
  have HY := Aside0.mk hY
  have HXs := Aside0.mk hXs
  have HXn := Aside0.mk hXn
  clear hJ0 hY hJ hJx hBW hs hn hXs hXn
  gi_wp2
  gi_loopg [4] l.length (fun kx a wr => ∃ (pre : List (Value × List S41)) (i f : Nat), cutAt ad k l l.length 0 = pre ++ cutAt ad k l f i ∧ a = .int .i64 i ∧ l.length - i ≤ kx ∧ l.length - i ≤ f ∧ (i = 0 ∨ k ≤ l.length ∨ l.length ≤ i) ∧ Aside0 (J pre wr) ∧ Aside0 (Fr X W wr))
  case atStart => exact ⟨[], 0, l.length, rfl, rfl, by omega, by omega, .inl rfl, HJ0, ⟨Fr.refl _ _⟩⟩
  case round =>
    clear HJ0
    obtain ⟨pre, i, f, hv, rfl, hkx, hf, hik, HJ, HF⟩ := hrel
    have hsV := (HF.out.block _ (Array.getElem?_eq_some_iff.1 hsW.out).1 HXs.out).trans hsW.out
    have hnV := (HF.out.block _ (Array.getElem?_eq_some_iff.1 hnW.out).1 HXn.out).trans hnW.out
    have s0 := (blk_cell hsV 0).trans rfl
    have n0 := (blk_cell hnV 0).trans rfl
    clear hsV hnV
    by_cases hlt : i < l.length
    · have hltz : (i : Int) < (l.length : Int) := by omega
      obtain ⟨f', rfl⟩ : ∃ f', f = f' + 1 := ⟨f - 1, by omega⟩
      rw [cutAt, if_pos hlt] at hv
      have hci : ¬ c = i := by omega
      have hz : (0 : Int) ≤ (i : Int) := by omega
      have hlz : (i : Int) ≤ (l.length : Int) := by omega
      have HJD : Aside0 (J pre wr.drew) := ⟨HJJ.out pre wr wr.drew none HJ.out (grown_of_below (below_drew1 (Below.refl _ _)) _) (fun r e => by cases e)⟩
      have HFD := Aside0.mk (Fr.of_below (below_drew1 (Below.refl _ _)) : Fr X wr wr.drew)
      have hsum : (i : Int) + (k : Int) ≤ 9223372036854775807 := by omega
      by_cases hlk : l.length - i < k
      · rw [Nat.min_eq_right (by omega)] at hv
        have HV := Aside0.mk hv
        have HPF := Aside0.mk (pfx hv)
        obtain ⟨fn, tmps, assign, body, hy, hR⟩ := HY.out pre _ wr.drew HJD.out HPF.out HF.out.size
        clear hv
        gi_wp2
        gi_region_with fail
        all_goals
          gi_wp2
          refine hR.mono ?_
          rintro e W3 (⟨rfl, hJ3, hF3, _⟩ | ⟨rfl, hJx3, _⟩)
          · have HF3 := Aside0.mk (HF.out.trans (HFD.out.trans hF3))
            have HJ3 := Aside0.mk hJ3
            have n1 := (blk_cell ((HF3.out.block _ (Array.getElem?_eq_some_iff.1 hnW.out).1 HXn.out).trans hnW.out) 0).trans rfl
            clear hJ3 hF3 hR hy s0 n0
            gi_wp2
            gi_roundg (l.length - (i + k))
            case measure => omega
            case rel => exact ⟨pre ++ [_], i + k, f', by rw [HV.out]; simp, by go_num, by omega, by omega, by omega, HJ3, HF3⟩
          · have HJ3 := Aside0.mk hJx3
            clear hJx3 hR hy s0 n0
            gi_wp2
            refine bodyPost_ret (results_none rfl _ _ _) rfl ?_
            exact ⟨⟨_, rfl⟩, .inr ⟨pre ++ [_], ⟨cutAt ad k l f' (i + k), by rw [HV.out]; simp⟩, HJ3.out⟩⟩
      · rw [Nat.min_eq_left (by omega)] at hv
        have HV := Aside0.mk hv
        have HPF := Aside0.mk (pfx hv)
        obtain ⟨fn, tmps, assign, body, hy, hR⟩ := HY.out pre _ wr.drew HJD.out HPF.out HF.out.size
        clear hv
        gi_wp2
        gi_region_with fail
        all_goals
          gi_wp2
          refine hR.mono ?_
          rintro e W3 (⟨rfl, hJ3, hF3, _⟩ | ⟨rfl, hJx3, _⟩)
          · have HF3 := Aside0.mk (HF.out.trans (HFD.out.trans hF3))
            have HJ3 := Aside0.mk hJ3
            have n1 := (blk_cell ((HF3.out.block _ (Array.getElem?_eq_some_iff.1 hnW.out).1 HXn.out).trans hnW.out) 0).trans rfl
            clear hJ3 hF3 hR hy s0 n0
            gi_wp2
            gi_roundg (l.length - (i + k))
            case measure => omega
            case rel => exact ⟨pre ++ [_], i + k, f', by rw [HV.out]; simp, by go_num, by omega, by omega, by omega, HJ3, HF3⟩
          · have HJ3 := Aside0.mk hJx3
            clear hJx3 hR hy s0 n0
            gi_wp2
            refine bodyPost_ret (results_none rfl _ _ _) rfl ?_
            exact ⟨⟨_, rfl⟩, .inr ⟨pre ++ [_], ⟨cutAt ad k l f' (i + k), by rw [HV.out]; simp⟩, HJ3.out⟩⟩
    · have hltz : ¬ (i : Int) < (l.length : Int) := by omega
      have hnil : cutAt ad k l f i = [] := by
        cases f with
        | zero => rfl
        | succ f => rw [cutAt, if_neg hlt]
      rw [hnil, List.append_nil] at hv
      have HV := Aside0.mk hv
      clear hv
      gi_wp2
      go_end0
      exact ⟨⟨_, rfl⟩, .inl (by rw [HV.out]; exact HJ.out)⟩
end
end Go.Proofs.Ythlelhndmnkmjaa.Pr
end
section
namespace Go.Proofs.Ythlelhndmnkmjaa.Pr
open Go.RowKit Go.Proofs.Ythlelhndmnkmjaa.Brid Go.Proofs.YthlelhndmnkmjaaW.PrintWords Go.Proofs.YthlelhndmnkmjaaW.PrintLast Go.Proofs.YthlelhndmnkmjaaW.PrintMore
set_option linter.unusedVariables false
set_option linter.unusedSimpArgs false
set_option maxHeartbeats 4000000
set_option maxRecDepth 100000
attribute [local go_sem] Oper.semAt_some
def noDefer (o : Oper) : Bool := match o.op with | .defer _ => false | _ => true
theorem noDefer_spec {l : List Oper} (h : l.all noDefer = true) : ∀ o ∈ l.toArray.toList, ∀ c, o.op ≠ .defer c := by
  intro o ho c e
  have := List.all_eq_true.1 h o (by simpa using ho)
  unfold noDefer at this
  rw [e] at this
  cases this
theorem wpListIn_of {P : Program} {ops : Array Oper} {Q : Exit → Act → World → Prop} {l : Nat} (hlo : ¬ LetsOut Q) : ∀ (rest : List Oper) (a : Act) (w : World), (∀ o ∈ rest, ∀ c, o.op ≠ .defer c) → wpList P ops Q rest a w → wpListIn (Fence.wide.inRound l) 0 P ops Q rest a w := by
  intro rest
  induction rest with
  | nil => intro a w _ h; exact h
  | cons o rest ih =>
    intro a w hnd h
    have hK := fun a w => ih a w (fun o ho => hnd o (List.mem_cons_of_mem _ ho))
    have hm : ∀ c, o.op ≠ .defer c := hnd o (List.mem_cons_self ..)
    unfold wpList at h
    unfold wpListIn
    by_cases hw : Region.wanted o (yielded ops a.tmps) = true
    · rw [if_pos hw] at h ⊢
      rcases h with h | ⟨_, h⟩
      · refine ⟨fun _ _ => trivial, ?_⟩
        rw [Oper.semAt_eq _ _ _ hm]
        unfold Oper.wp at h
        generalize (execOp a.eval o).run P w = r at h ⊢
        cases r with
        | ok nx w' =>
          cases nx with
          | value v => exact hK _ _ h
          | skip => exact hK _ _ h
          | defer d => exact hK _ _ h
          | enter f args =>
            refine ⟨fun hh => absurd hh (by simp [Fence.wide]), CallsIn.inRound l (callsIn_wide.2 (Calls.mono h ?_))⟩
            intro e w'' he
            cases e with
            | returned v => exact hK _ _ he
            | panicked c => exact he
            | outgrown => exact he
          | row row args =>
            exact ⟨fun hh => absurd hh (by simp [Fence.wide]), fun c cs _ => by
              obtain ⟨v, w'', hr, hs⟩ := h c cs
              exact ⟨v, w'', hK _ _ hr, stepsIn_wide.2 hs⟩⟩
          | _ => exact h.elim
        | halt hh w' =>
          cases hh with
          | panic v => exact h
          | _ => exact h.elim
      · exact absurd h hlo
    · rw [if_neg hw] at h ⊢
      exact ⟨fun _ _ => trivial, hK _ _ h⟩
theorem wpIn_region_plain {P : Program} {id n : Nat} {Q : Exit → Act → World → Prop} {a : Act} {w : World} {l : List Oper} (hnd : l.all noDefer = true) (hlo : ¬ LetsOut Q) (h : wpList P l.toArray Q l a w) : (Code.region id l.toArray false).wpIn (Fence.wide.inRound n) 0 P Q a w :=
  wpIn_region_lit (wpListIn_of hlo l a w (fun o ho => noDefer_spec hnd o (by simpa using ho)) h)
theorem keepsFrom_set {B : Nat} {a b : World} (h : KeepsFrom B a b) (q j : Nat) (v : Value) : KeepsFrom B a (b.setCell ⟨q, j, none⟩ v) := h.trans ((KeepsOthers.setCell _ _ _).from _)
theorem ownFrom_blk {β : Type} {B k : Nat} {cs : Array Value} {t : Nat} : OwnFrom B (fun (_ : β) V => V.heap[k]? = some (.cells cs t (0, 0))) := by
  intro s A A' row h hg hr
  refine (hg.block k (Array.getElem?_eq_some_iff.1 h).1 (fun e => ?_)).trans h
  obtain ⟨_, o, ho, hc⟩ := hr k e.symm
  rw [h] at ho
  cases ho
  cases hc
theorem ownFrom_RK {β α : Type} {d : Kd α} {e B n0 : Nat} {ok : Nat → Prop} {v : Value} {l : List α} : OwnFrom B (fun (_ : β) V => Kd.R d e V n0 ok v l) := by
  intro s A A' row h hg hr
  refine Kd.R_mono (Kd.R_move (Kd.R_bound h) (fun k hk => hg.block k hk.2.2.1 (fun e => ?_))) (fun _ hk => hk.1)
  obtain ⟨_, o, ho, hc⟩ := hr k e.symm
  obtain ⟨_, _, _, q, _, cells, hcell⟩ := hk
  rw [hcell] at ho
  cases ho
  cases hc
theorem ownFrom_belowK {β : Type} {B : Nat} {w : World} (hB : w.heap.size ≤ B) : OwnFrom B (fun (_ : β) V => Below w.heap.size w V) := by
  intro s A A' row h hg hr
  exact ⟨hg.os.trans h.os, hg.tape.trans h.tape, hg.output.trans h.output, Nat.le_trans h.size hg.size, fun k hk => (hg.block k (Nat.lt_of_lt_of_le hk h.size) (fun e => by have := (hr k e.symm).1; omega)).trans (h.block k hk)⟩
theorem seq_fin {w U w1 we : World} {av v1 : Value} {xss : List (List S41)} {l : List S41} (q1 : U.heap[w.heap.size]? = some (.cells #[av] 22 (0, 0))) (q2 : Kd.R (oldK (Kd.slice 41 k41) we) 25 U (w.heap.size + 1) (fun _ => True) av xss) (q3 : Below w.heap.size w U)
    (hR1 : Kd.R (oldK (Kd.slice 41 k41) we) 25 w1 (w.heap.size + 1) (fun _ => True) v1 (xss ++ [l])) (hg1 : U.grownBy w1 av.ownBlock) :
    w1.heap[w.heap.size]? = some (.cells #[av] 22 (0, 0)) ∧ KeepsFrom (w.heap.size + 1) U (w1.setCell ⟨w.heap.size, 0, none⟩ v1) ∧ Fr (fun k => w.heap.size ≤ k) U (w1.setCell ⟨w.heap.size, 0, none⟩ v1) ∧
      (w1.setCell ⟨w.heap.size, 0, none⟩ v1).heap[w.heap.size]? = some (.cells #[v1] 22 (0, 0)) ∧ Kd.R (oldK (Kd.slice 41 k41) we) 25 (w1.setCell ⟨w.heap.size, 0, none⟩ v1) (w.heap.size + 1) (fun _ => True) v1 (xss ++ [l]) ∧ Below w.heap.size w (w1.setCell ⟨w.heap.size, 0, none⟩ v1) := by
  have hown : ∀ k, some k = av.ownBlock → w.heap.size + 1 ≤ k := fun k e => ((Kd.R_bound q2).1 k e.symm).2.1
  have hcell : ∀ k, some k = av.ownBlock → ∃ cs, U.heap[k]? = some (.cells cs 25 (0, 0)) := fun k e => Kd.R_typed q2 k e.symm
  have ha : w1.heap[w.heap.size]? = some (.cells #[av] 22 (0, 0)) := (hg1.block _ (Array.getElem?_eq_some_iff.1 q1).1 (fun e => by have := hown _ e; omega)).trans q1
  have hk1 : KeepsFrom (w.heap.size + 1) U w1 := ⟨hg1.size, fun k o _ ho hc => (hg1.block k (Array.getElem?_eq_some_iff.1 ho).1 (fun e => by
    obtain ⟨cs, hcs⟩ := hcell k e
    rw [hcs] at ho; cases ho; cases hc)).trans ho⟩
  have hf1 : Fr (fun k => w.heap.size ≤ k) U w1 := ⟨hg1.os, hg1.tape, hg1.output, hg1.size, fun k hk hn => hg1.block k hk (fun e => hn (by have := hown k e; omega))⟩
  have hf2 := hf1.set (q := w.heap.size) (.inl (Nat.le_refl _)) 0 v1
  exact ⟨ha, keepsFrom_set hk1 _ _ _, hf2, blk_set ha 0 _, Kd.R_set hR1 ha (fun q hq => by simp [oldK] at hq; omega) 0 v1, below_fr q3 hf2 (fun k h => h)⟩
/-- slices.AppendSeq(nil, seq) over chunks -/
theorem AppendSeq_T (lb : Array Value) (vs : List (Value × List S41)) (we w : World) (hb : Below we.heap.size we w) (hK : ∀ x ∈ vs, (Kd.slice 41 k41).K we x.2 [x.1]) (hlen : vs.length ≤ 1099511627776)
    (hseq : ∀ W, Below w.heap.size w W → SeqG Try.prog 75 lb (fun x : Value × List S41 => #[x.1]) (fun pre x _ => pre ++ [x] <+: vs) (fun k => w.heap.size ≤ k) (fun xs => xs = vs) (fun pre => pre <+: vs) W) :
    Calls Try.prog 74 #[.slice none 0 0, .func (.func 75) #[] lb] w fun e w' => Below w.heap.size w w' ∧ ∃ v, e = .returned v ∧ Kd.R (oldK (Kd.slice 41 k41) we) 25 w' w.heap.size (fun _ => True) v (vs.map (·.2)) := by
  refine (callsIn_wide (n := 1)).1 (callsIn_of_wp_marks Try.func74 rfl trivial ?_ rfl)
  simp only [Try.ntmps74, List.size_toArray, List.length_cons, List.length_nil, Nat.reduceAdd, Nat.reduceSub, Array.replicate_succ, Array.replicate_zero, List.push_toArray, List.append_toArray, List.nil_append, List.cons_append]
  refine wpIn_wide.2 ?_
  have b1 := below_alloc (Below.refl w.heap.size w) (.cells #[.slice none 0 0] 22)
  have k1 := heap_alloc_new w (.cells #[.slice none 0 0] 22)
  have hsq := hseq _ b1
  have HK := Aside0.mk hK
  have HB1 := Aside0.mk b1
  have HK1 := Aside0.mk k1
  have z1 : (w.alloc (.cells #[.slice none 0 0] 22)).heap.size = w.heap.size + 1 := by simp
  have HZ1 := Aside0.mk z1
  have HSQ := Aside0.mk hsq
  clear hseq hsq b1 k1 z1 hK
  go_wp2
  generalize w.alloc (.cells #[.slice none 0 0] 22) = w2 at *
  refine wp_rangeH (gf := 75) (lb := lb) rfl (enters_of Try.func75 (by kernel_rfl) rfl) HSQ.out (by rw [HZ1.out]; omega) (by rw [HZ1.out]; omega) (fun _ => rfl)
    (fun pre V => ∃ av, V.heap[w.heap.size]? = some (.cells #[av] 22 (0, 0)) ∧ Kd.R (oldK (Kd.slice 41 k41) we) 25 V (w.heap.size + 1) (fun _ => True) av (pre.map (·.2)) ∧ Below w.heap.size w V)
    (fun cd pre V => False) ?hI (fun cd s A B row h _ _ => h) ⟨.slice none 0 0, HK1.out, Kd.R_nil _ _ _ _ _, HB1.out⟩ ?round ?done (fun cd pre V _ h _ => h.elim)
  case hI =>
    rintro s A B row ⟨av, h1, h2, h3⟩ hg hr
    exact ⟨av, ownFrom_blk () A B row h1 hg hr, ownFrom_RK () A B row h2 hg hr, ownFrom_belowK (by rw [HZ1.out]; omega) () A B row h3 hg hr⟩
  case round =>
    rintro l3 pre ⟨v, l⟩ V K ⟨av, h1, h2, h3⟩ hgood hV hK
    have hmem : (v, l) ∈ vs := hgood.subset (by simp)
    have hpl : pre.length < 1099511627776 := by
      have := hgood.length_le
      simp at this; omega
    have hKK := HK.out _ hmem
    have HKK := Aside0.mk hKK
    have HKC := Aside0.mk hK
    have H := Aside0.mk (And.intro h1 (And.intro h2 h3))
    clear h1 h2 h3 hgood hmem hK hKK
    gi_wp2
    refine HKC.out _ _ (fun U => U.heap[w.heap.size]? = some (.cells #[av] 22 (0, 0)) ∧ Kd.R (oldK (Kd.slice 41 k41) we) 25 U (w.heap.size + 1) (fun _ => True) av (pre.map (·.2)) ∧ Below w.heap.size w U) ?zo H.out (KeepsFrom.refl _ _) (Fr.refl _ _) ?_
    case zo =>
      rintro s A B row ⟨q1, q2, q3⟩ hg hr
      exact ⟨ownFrom_blk () A B row q1 hg hr, ownFrom_RK () A B row q2 hg hr, ownFrom_belowK (by rw [HZ1.out]; omega) () A B row q3 hg hr⟩
    rintro U ⟨q1, q2, q3⟩ hUs
    obtain ⟨Aa, ca, hav⟩ := Kd.R_slice q2
    rw [List.length_map] at hav
    subst hav
    obtain ⟨A0, c0, hv, hlc, hCl⟩ := HKK.out
    simp only [List.cons.injEq, and_true] at hv
    subst hv
    have c12 := (blk_cell q1 0).trans rfl
    have f12 := blk_frozen q1 0
    have Q := Aside0.mk (And.intro q1 (And.intro q2 q3))
    have HUS : Aside0 (w.heap.size + 1 ≤ U.heap.size) := ⟨by rw [HZ1.out] at hUs; omega⟩
    have HL24 : Aside0 (((pre.map (·.2)).length + 1) * 24 ≤ 140737488355328) := ⟨by rw [List.length_map]; omega⟩
    clear q1 q2 q3 hlc hCl
    refine wpIn_block ?_
    refine wpIn_region_plain (by kernel_rfl) (by rintro ⟨_, _, h⟩; exact h) ?_
    go_wp2_with (at_builtin; refine show_goal ?_)
    refine Aside0.mk ?_
    refine Kd.R_append (oldK (Kd.slice 41 k41) we) (w0 := U) (w.heap.size + 1) ?_ (.tmp 8) (.tmp 10) 22 25 (.slice none 0 0) 24 ?_ ?_ ?_ ?_ ?_ ?_ (.slice Aa pre.length ca) (pre.map (·.2)) l [.slice A0 l.length c0] (fun _ => True) (fun _ => False) ?_ ?_ ?_ ?_ ?_ ?_ ?_ ?_ ?_ ?_
    · rfl
    · rfl
    · exact Try.underlying22
    · exact info25
    · rfl
    · exact Nat.zero_lt_succ 0
    · exact Nat.zero_lt_succ 23
    · rfl
    · rfl
    · exact HKK.out
    · exact fun _ h => h.elim
    · exact fun _ _ => trivial
    · exact Q.out.2.1
    · exact Below.refl _ _
    · exact HUS.out
    · exact HL24.out
    intro v1 w3 hR1 hb1 hg1 hat1
    obtain ⟨A1_, c1_, hv1⟩ := Kd.R_slice hR1
    rw [List.length_append, List.length_map, List.length_singleton] at hv1
    subst hv1
    have hfin := seq_fin Q.out.1 Q.out.2.1 Q.out.2.2 hR1 hg1
    have s0 := (blk_cell hfin.1 0).trans rfl
    have s1 := blk_frozen hfin.1 0
    have HFIN := Aside0.mk hfin.2
    clear hR1 hb1 hg1 hat1 hfin c12 f12
    go_wp2
    rw [HZ1.out]
    exact ⟨HFIN.out.1, HFIN.out.2.1, _, HFIN.out.2.2.1, by rw [List.map_append]; exact HFIN.out.2.2.2.1, HFIN.out.2.2.2.2⟩
  case done =>
    rintro xs V rfl ⟨av, h1, h2, h3⟩ hD
    have HRES : Aside0 (Below w.heap.size w (V.putObj w2.heap.size (.deferred none)) ∧ Kd.R (oldK (Kd.slice 41 k41) we) 25 (V.putObj w2.heap.size (.deferred none)) w.heap.size (fun _ => True) av (xs.map (·.2))) := ⟨by
      have hg := grownBy_putObj' V w2.heap.size (.deferred none)
      have hr : ∀ r, some w2.heap.size = some r → w2.heap.size ≤ r ∧ ∃ o : Obj, V.heap[r]? = some o ∧ o.isCells = false := fun r e => by cases e; exact ⟨Nat.le_refl _, _, hD, rfl⟩
      exact ⟨ownFrom_belowK (by rw [HZ1.out]; omega) () _ _ _ h3 hg hr, Kd.R_lower (ownFrom_RK () _ _ _ h2 hg hr) (by omega)⟩⟩
    obtain ⟨Aa, ca, hav⟩ := Kd.R_slice h2
    rw [List.length_map] at hav
    subst hav
    have q0 := (blk_cell h1 0).trans rfl
    have HD := Aside0.mk hD
    clear h1 h2 h3 hD
    go_wp2
    refine ⟨by simp, .inl ⟨_, _, rfl, run_takeDeferred HD.out, ?_⟩⟩
    exact ⟨.slice Aa xs.length ca, results_tmp (t := 4) rfl _ _ _, HRES.out.1, .slice Aa xs.length ca, rfl, HRES.out.2⟩
end Go.Proofs.Ythlelhndmnkmjaa.Pr
end
section
namespace Go.Proofs.Ythlelhndmnkmjaa.Pr
open Go.RowKit Go.Proofs.Ythlelhndmnkmjaa.Brid Go.Proofs.YthlelhndmnkmjaaW.PrintWords Go.Proofs.YthlelhndmnkmjaaW.PrintLast Go.Proofs.YthlelhndmnkmjaaW.PrintMore
set_option linter.unusedVariables false
set_option linter.unusedSimpArgs false
set_option maxHeartbeats 4000000
set_option maxRecDepth 100000
/-- a list in pieces of k -/
def chunkL (k : Nat) (l : List S41) : Nat → Nat → List (List S41)
  | 0, _ => []
  | f + 1, i => if i < l.length then (l.drop i).take k :: chunkL k l f (i + k) else []
def splitV (l : List S41) (n : Int) : List (List S41) := chunkL (if n < 1 then l.length else n.toNat) l l.length 0
theorem cutAt_map (ad : Addr) (k : Nat) (l : List S41) : ∀ f i, (cutAt ad k l f i).map (·.2) = chunkL k l f i := by
  intro f
  induction f with
  | zero => intro i; rfl
  | succ f ih =>
    intro i
    unfold cutAt chunkL
    split
    · rw [List.map_cons, ih]
    · rfl
theorem cutAt_len (ad : Addr) (k : Nat) (l : List S41) : ∀ f i, (cutAt ad k l f i).length ≤ f := by
  intro f
  induction f with
  | zero => intro i; exact Nat.le_refl _
  | succ f ih =>
    intro i
    unfold cutAt
    split
    · rw [List.length_cons]; have := ih (i + k); omega
    · simp
theorem cutAt_K {w : World} {ad : Addr} {l : List S41} {k : Nat} (hC : Kd.C k41 w (some ad) l.length l) : ∀ f i, ∀ x ∈ cutAt ad k l f i, (Kd.slice 41 k41).K w x.2 [x.1] := by
  intro f
  induction f with
  | zero => intro i x hx; cases hx
  | succ f ih =>
    intro i x hx
    unfold cutAt at hx
    split at hx
    · rename_i hlt
      rcases List.mem_cons.1 hx with rfl | hx
      · have h1 := Kd.C_drop (c := l.length) (m := i) hC (by omega) (Nat.le_refl _)
        rw [if_neg (by omega)] at h1
        have h2 := Kd.C_take (m := min k (l.length - i)) h1 (by rw [List.length_drop]; omega)
        have e : ((l.drop i).take (min k (l.length - i))) = (l.drop i).take k := by
          rcases Nat.le_total k (l.length - i) with h | h
          · rw [Nat.min_eq_left h]
          · rw [Nat.min_eq_right h, List.take_of_length_le (by rw [List.length_drop]; omega), List.take_of_length_le (by rw [List.length_drop]; omega)]
        rw [e] at h2
        have el : ((l.drop i).take k).length = min k (l.length - i) := by rw [List.length_take, List.length_drop]
        exact ⟨some (ad.add (i * 2)), min k (l.length - i), by rw [el], by rw [el]; exact Nat.le_refl _, h2⟩
      · exact ih (i + k) x hx
    · cases hx
theorem Chunk_T (A : Option Addr) (n c : Nat) (k : Nat) (w : World) (hk : 1 ≤ k) : Calls Try.prog 46 #[.slice A n c, .int .i64 k] w fun e w' => e = .returned (.func (.func 75) #[] #[.pointer (some ⟨w.heap.size, 0, none⟩), .pointer (some ⟨w.heap.size + 1, 0, none⟩)]) ∧ w' = (w.alloc (.cells #[.slice A n c] 25)).alloc (.cells #[.int .i64 k] 3) := by
  have hk1 : ¬ (k : Int) < 1 := by omega
  have hk2 : (1 : Int) ≤ (k : Int) := by omega
  have hz : (w.alloc (.cells #[.slice A n c] 25)).heap.size = w.heap.size + 1 := by simp
  have hb := heap_alloc_new (w.alloc (.cells #[.slice A n c] 25)) (.cells #[.int .i64 k] 3)
  rw [hz] at hb
  have h0 := (blk_cell hb 0).trans rfl
  clear hb hz
  go_enter Try.func46, Try.ntmps46
  go_wp2
  go_ret
  exact ⟨rfl, rfl⟩
theorem Collect_T (lb : Array Value) (vs : List (Value × List S41)) (we w : World) (hb : Below we.heap.size we w) (hK : ∀ x ∈ vs, (Kd.slice 41 k41).K we x.2 [x.1]) (hlen : vs.length ≤ 1099511627776)
    (hseq : ∀ W, Below w.heap.size w W → SeqG Try.prog 75 lb (fun x : Value × List S41 => #[x.1]) (fun pre x _ => pre ++ [x] <+: vs) (fun k => w.heap.size ≤ k) (fun xs => xs = vs) (fun pre => pre <+: vs) W) :
    Calls Try.prog 45 #[.func (.func 75) #[] lb] w fun e w' => Below w.heap.size w w' ∧ ∃ v, e = .returned v ∧ Kd.R (oldK (Kd.slice 41 k41) we) 25 w' w.heap.size (fun _ => True) v (vs.map (·.2)) := by
  have ha := AppendSeq_T lb vs we w hb hK hlen hseq
  clear hseq hK
  go_enter Try.func45, Try.ntmps45
  go_wp2_with fail
  refine ha.mono ?_
  rintro e w1 ⟨hb1, v, rfl, hR⟩
  have HB := Aside0.mk hb1
  have HR := Aside0.mk hR
  clear ha hb1 hR
  go_wp2
  go_ret
  exact ⟨HB.out, _, rfl, HR.out⟩
theorem Split_T (A : Option Addr) (c : Nat) (l : List S41) (n : Int) (w : World) (hC : Kd.C k41 w A l.length l) (hc : l.length ≤ c) (hn : l.length ≤ 1099511627776) (h1 : n ≤ 9223372036854775807) :
    Calls Try.prog 18 #[.slice A l.length c, .int .i64 n] w fun e w' => Below w.heap.size w w' ∧ ∃ A' c', e = .returned (.slice A' (splitV l n).length c') ∧ (splitV l n).length ≤ c' ∧ Kd.C (Kd.slice 41 k41) w' A' (splitV l n).length (splitV l n) := by
  by_cases hl0 : l.length = 0
  · have hl : l = [] := List.length_eq_zero_iff.1 hl0
    have e0 : splitV l n = [] := by subst hl; rfl
    rw [e0]
    have hli : (l.length : Int) = 0 := by omega
    have hlb : ((l.length : Int) == 0) = true := by simp [hli]
    clear hC hl hl0 e0
    go_enter Try.func18, Try.ntmps18
    go_wp2
    go_ret
    exact ⟨Below.refl _ _, none, 0, rfl, Nat.le_refl _, Kd.C_nil _ _⟩
  · obtain ⟨k, hk⟩ : ∃ k : Nat, k = if n < 1 then l.length else n.toNat := ⟨_, rfl⟩
    have hk1 : 1 ≤ k := by rw [hk]; split <;> omega
    have hk2 : k ≤ 9223372036854775807 := by rw [hk]; split <;> omega
    have HS : Aside0 (splitV l n = chunkL k l l.length 0) := ⟨by rw [hk]; rfl⟩
    have hcl := Clone_T A c l w hC hc hn
    have hlb : ((l.length : Int) == 0) = false := beq_eq_false_iff_ne.2 (by omega)
    have HL0 := Aside0.mk hl0
    have key : ∀ w1 : World, ∀ v, Kd.R (oldK k41 w) 41 w1 w.heap.size (fun _ => True) v l → Below w.heap.size w w1 → ∃ (g : Nat) (c1 : Nat), v = .slice (some ⟨g, 0, none⟩) l.length c1 ∧ l.length ≤ c1 ∧ Kd.C k41 w1 (some ⟨g, 0, none⟩) l.length l := fun w1 v hR hb => by
      obtain ⟨A1, c1, e, hlc, hC1⟩ := Kd.R_reads hR
      subst e
      obtain ⟨g, eg, _, _⟩ := R_own41 hR (by omega)
      subst eg
      exact ⟨g, c1, rfl, hlc, oldK_C hC1 hb⟩
    have HKEY := Aside0.mk key
    clear hC key
    by_cases hn1 : n < 1
    · rw [if_pos hn1] at hk
      subst hk
      go_enter Try.func18, Try.ntmps18
      go_wp2_with fail
      refine hcl.mono ?_
      rintro e w1 ⟨v1, rfl, hR1, hb1⟩
      obtain ⟨g, c1, hv1, hlc1, hC1⟩ := HKEY.out w1 v1 hR1 hb1
      subst hv1
      have HB1 := Aside0.mk hb1
      have HC1 := Aside0.mk hC1
      have HLC1 := Aside0.mk hlc1
      clear hcl hR1 hb1 hC1 hlc1
      go_wp2_with fail
      refine (Chunk_T (some ⟨g, 0, none⟩) l.length c1 l.length w1 hk1).mono ?_
      rintro e w2 ⟨rfl, hw2⟩
      have hs1 : w2.heap[w1.heap.size]? = some (.cells #[.slice (some ⟨g, 0, none⟩) l.length c1] 25 (0, 0)) := by rw [hw2]; exact blk_alloc (heap_alloc_new w1 _) _
      have hs2 : w2.heap[w1.heap.size + 1]? = some (.cells #[.int .i64 (l.length : Nat)] 3 (0, 0)) := by
        rw [hw2]
        have := heap_alloc_new (w1.alloc (.cells #[.slice (some ⟨g, 0, none⟩) l.length c1] 25)) (.cells #[.int .i64 (l.length : Nat)] 3)
        rwa [show (w1.alloc (.cells #[.slice (some ⟨g, 0, none⟩) l.length c1] 25)).heap.size = w1.heap.size + 1 by simp] at this
      have hb2 : Below w1.heap.size w1 w2 := by rw [hw2]; exact below_alloc (below_alloc (Below.refl _ _) _) _
      have hz2 : w2.heap.size = w1.heap.size + 2 := by rw [hw2]; simp
      have hco := Collect_T #[.pointer (some ⟨w1.heap.size, 0, none⟩), .pointer (some ⟨w1.heap.size + 1, 0, none⟩)] (cutAt ⟨g, 0, none⟩ l.length l l.length 0) w1 w2 hb2 (cutAt_K HC1.out _ _) (Nat.le_trans (cutAt_len _ _ _ _ _) hn)
        (fun W hW => chunk_G ⟨g, 0, none⟩ c1 l.length w1.heap.size (w1.heap.size + 1) l (fun k => w2.heap.size ≤ k) W (blk_below hs1 hW) (blk_below hs2 hW) (by omega) (by omega) hk1 (by omega) hn HLC1.out)
      have HB2 := Aside0.mk (below_then HB1.out HB1.out.size hb2)
      have HBB := Aside0.mk hb2
      clear hw2 hs1 hs2 hb2 hz2
      go_wp2_with fail
      refine hco.mono ?_
      rintro e w3 ⟨hb3, v3, rfl, hR3⟩
      have HB3 := Aside0.mk (below_then HB2.out HB2.out.size hb3)
      obtain ⟨A3, c3, e3, hl3, hC3⟩ := Kd.R_reads hR3
      subst e3
      have HC3 := Aside0.mk (oldK_C hC3 (below_then HBB.out HBB.out.size hb3))
      have HL3 := Aside0.mk hl3
      clear hco hb3 hR3 hC3 hl3
      go_wp2
      go_ret
      have hc3 := HC3.out
      have hl3 := HL3.out
      rw [cutAt_map] at hc3 hl3
      refine ⟨HB3.out, A3, c3, ?_, ?_, ?_⟩
      · rw [HS.out, ← cutAt_map ⟨g, 0, none⟩, List.length_map]; rfl
      · rw [HS.out]; exact hl3
      · rw [HS.out]; exact hc3
    · rw [if_neg hn1] at hk
      have hnk : n = (k : Int) := by omega
      subst hnk
      clear hk
      go_enter Try.func18, Try.ntmps18
      go_wp2_with fail
      refine hcl.mono ?_
      rintro e w1 ⟨v1, rfl, hR1, hb1⟩
      obtain ⟨g, c1, hv1, hlc1, hC1⟩ := HKEY.out w1 v1 hR1 hb1
      subst hv1
      have HB1 := Aside0.mk hb1
      have HC1 := Aside0.mk hC1
      have HLC1 := Aside0.mk hlc1
      clear hcl hR1 hb1 hC1 hlc1
      go_wp2_with fail
      refine (Chunk_T (some ⟨g, 0, none⟩) l.length c1 k w1 hk1).mono ?_
      rintro e w2 ⟨rfl, hw2⟩
      have hs1 : w2.heap[w1.heap.size]? = some (.cells #[.slice (some ⟨g, 0, none⟩) l.length c1] 25 (0, 0)) := by rw [hw2]; exact blk_alloc (heap_alloc_new w1 _) _
      have hs2 : w2.heap[w1.heap.size + 1]? = some (.cells #[.int .i64 (k : Nat)] 3 (0, 0)) := by
        rw [hw2]
        have := heap_alloc_new (w1.alloc (.cells #[.slice (some ⟨g, 0, none⟩) l.length c1] 25)) (.cells #[.int .i64 (k : Nat)] 3)
        rwa [show (w1.alloc (.cells #[.slice (some ⟨g, 0, none⟩) l.length c1] 25)).heap.size = w1.heap.size + 1 by simp] at this
      have hb2 : Below w1.heap.size w1 w2 := by rw [hw2]; exact below_alloc (below_alloc (Below.refl _ _) _) _
      have hz2 : w2.heap.size = w1.heap.size + 2 := by rw [hw2]; simp
      have hco := Collect_T #[.pointer (some ⟨w1.heap.size, 0, none⟩), .pointer (some ⟨w1.heap.size + 1, 0, none⟩)] (cutAt ⟨g, 0, none⟩ k l l.length 0) w1 w2 hb2 (cutAt_K HC1.out _ _) (Nat.le_trans (cutAt_len _ _ _ _ _) hn)
        (fun W hW => chunk_G ⟨g, 0, none⟩ c1 k w1.heap.size (w1.heap.size + 1) l (fun k => w2.heap.size ≤ k) W (blk_below hs1 hW) (blk_below hs2 hW) (by omega) (by omega) hk1 (by omega) hn HLC1.out)
      have HB2 := Aside0.mk (below_then HB1.out HB1.out.size hb2)
      have HBB := Aside0.mk hb2
      clear hw2 hs1 hs2 hb2 hz2
      go_wp2_with fail
      refine hco.mono ?_
      rintro e w3 ⟨hb3, v3, rfl, hR3⟩
      have HB3 := Aside0.mk (below_then HB2.out HB2.out.size hb3)
      obtain ⟨A3, c3, e3, hl3, hC3⟩ := Kd.R_reads hR3
      subst e3
      have HC3 := Aside0.mk (oldK_C hC3 (below_then HBB.out HBB.out.size hb3))
      have HL3 := Aside0.mk hl3
      clear hco hb3 hR3 hC3 hl3
      go_wp2
      go_ret
      have hc3 := HC3.out
      have hl3 := HL3.out
      rw [cutAt_map] at hc3 hl3
      refine ⟨HB3.out, A3, c3, ?_, ?_, ?_⟩
      · rw [HS.out, ← cutAt_map ⟨g, 0, none⟩, List.length_map]; rfl
      · rw [HS.out]; exact hl3
      · rw [HS.out]; exact hc3
end Go.Proofs.Ythlelhndmnkmjaa.Pr
end
