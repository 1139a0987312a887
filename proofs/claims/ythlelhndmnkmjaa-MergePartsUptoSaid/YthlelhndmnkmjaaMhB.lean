/- MgS MgP MgN -/
import Derived.Test.YthlelhndmnkmjaaMhA
import Derived.Test.YthlelhndmnkmjaaPrf67
import Derived.Test.YthlelhndmnkmjaaPrf22
import Derived.Sort.LotB
section
namespace Go.Proofs.Ythlelhndmnkmjaa.Pr
open Go.RowKit Go.Proofs.Ythlelhndmnkmjaa.Brid Go.Proofs.YthlelhndmnkmjaaW.PrintWords Go.Proofs.YthlelhndmnkmjaaW.PrintLast Go.Proofs.YthlelhndmnkmjaaW.PrintMore
set_option linter.unusedVariables false
set_option linter.unusedSimpArgs false
set_option maxHeartbeats 4000000
set_option maxRecDepth 100000
/-- all rows have a key, keys rise -/
def OkL (l : List S41) : Prop := (∀ d ∈ l, d.f1.length ≠ 0) ∧ SortedD l
theorem IndexFunc67_T (A : Option Addr) (c : Nat) (l : List S41) (w : World) (hC : Kd.C k41 w A l.length l) (hn : l.length ≤ 4611686018427387904) :
    Calls Try.prog 76 #[.slice A l.length c, .func (.func 67) #[] #[]] w fun e w' => Below w.heap.size w w' ∧ ∃ r : Int, e = .returned (.int .i64 r) ∧ (0 ≤ r ↔ ∃ d ∈ l, d.f1.length = 0) := by
  have HC := Aside0.mk hC
  clear hC
  go_enter Try.func76, Try.ntmps76
  go_wp2
  go_loopg [8] l.length (fun kx a wr => ∃ i : Nat, a = .int .i64 i ∧ i ≤ l.length ∧ l.length - i ≤ kx ∧ Aside0 (Below w.heap.size w wr) ∧ Aside0 (∀ (j : Nat) (h : j < l.length), j < i → l[j].f1.length ≠ 0))
  case atStart => exact ⟨0, rfl, Nat.zero_le _, by omega, ⟨Below.refl _ _⟩, ⟨fun j _ h => absurd h (Nat.not_lt_zero _)⟩⟩
  case round =>
    obtain ⟨i, rfl, hi, hkx, HB, HA⟩ := hrel
    by_cases hlt : i < l.length
    · have hz0 : (0 : Int) ≤ (i : Int) := by omega
      have hz1 : (i : Int) < (l.length : Int) := by omega
      have hCr := Kd.C_below HC.out HB.out
      obtain ⟨ad, Ar, cr, eA, x0, x1, hcr, hC⟩ := at_T41 hCr (i : Int) hz0 hz1
      subst eA
      rw [rdD_at l i hlt] at x0 x1 hcr hC
      simp only [Int.toNat_natCast] at x0 x1
      have HA2 := Aside0.mk (fun (hne : l[i].f1.length ≠ 0) (j : Nat) (h : j < l.length) (hj : j < i + 1) => show l[j].f1.length ≠ 0 from by
        by_cases e : j = i
        · subst e; exact hne
        · exact HA.out j h (by omega))
      have HM := Aside0.mk (List.getElem_mem hlt)
      generalize l[i] = d at *
      by_cases hd : d.f1.length = 0
      · have hcl := block_Sorted_1.calls d.f0 Ar cr d.f1 true wr hC hcr (by unfold block_Sorted_1.f; simp [hd])
        have HD := Aside0.mk hd
        clear hC hcr hd HA HA2 hCr
        go_wp2_with fail
        refine hcl.mono ?_
        rintro e w2 ⟨rfl, hb2⟩
        have HB2 := Aside0.mk (below_then HB.out HB.out.size hb2)
        clear hcl hb2
        go_wp2
        go_ret
        exact ⟨HB2.out, _, rfl, ⟨fun _ => ⟨d, HM.out, HD.out⟩, fun _ => hz0⟩⟩
      · have hcl := block_Sorted_1.calls d.f0 Ar cr d.f1 false wr hC hcr (by unfold block_Sorted_1.f; simp [hd])
        have HA3 := Aside0.mk (HA2.out hd)
        clear hC hcr hd HA HA2 hCr
        go_wp2_with fail
        refine hcl.mono ?_
        rintro e w2 ⟨rfl, hb2⟩
        have HB2 := Aside0.mk (below_then HB.out HB.out.size hb2)
        clear hcl hb2
        go_wp2
        go_roundg (l.length - (i + 1))
        case measure => omega
        case rel => exact ⟨i + 1, by go_num, by omega, by omega, HB2, HA3⟩
    · obtain rfl : l.length = i := by omega
      go_wp2
      go_ret
      refine ⟨HB.out, _, rfl, ⟨fun h => absurd h (by decide), fun ⟨d, hd, he⟩ => ?_⟩⟩
      obtain ⟨j, hj, rfl⟩ := List.getElem_of_mem hd
      exact absurd he (HA.out j hj hj)
theorem ContainsFunc67_T (A : Option Addr) (c : Nat) (l : List S41) (w : World) (hC : Kd.C k41 w A l.length l) (hn : l.length ≤ 4611686018427387904) :
    Calls Try.prog 66 #[.slice A l.length c, .func (.func 67) #[] #[]] w fun e w' => Below w.heap.size w w' ∧ ∃ r : Bool, e = .returned (.bool r) ∧ (r = true ↔ ∃ d ∈ l, d.f1.length = 0) := by
  have hix := IndexFunc67_T A c l w hC hn
  clear hC
  go_enter Try.func66, Try.ntmps66
  go_wp2_with fail
  refine hix.mono ?_
  rintro e w2 ⟨hb2, r, rfl, hr⟩
  have HB2 := Aside0.mk hb2
  have HR := Aside0.mk hr
  clear hix hb2 hr
  go_wp2
  all_goals
    go_ret
    refine ⟨HB2.out, _, rfl, ?_⟩
    rw [← HR.out]
    simp
theorem okL_false_of {l : List S41} (h : ∃ d ∈ l, d.f1.length = 0) : ¬ OkL l := fun ⟨h1, _⟩ => by obtain ⟨d, hd, he⟩ := h; exact h1 d hd he
theorem sorted_adj {l : List S41} (h : ∀ (i : Nat) (hi : i + 1 < l.length), lessT (keyT (l[i]'(by omega))) (keyT l[i + 1]) = true) : SortedD l := by
  refine List.pairwise_iff_getElem.2 fun i j hi hj hij => ?_
  induction j with
  | zero => omega
  | succ j ih =>
    by_cases e : i = j
    · subst e; exact h i hj
    · exact lessT_trans (ih (by omega) (by omega)) (h j hj)
theorem sorted_at {l : List S41} (h : SortedD l) (i : Nat) (hi : i + 1 < l.length) : lessT (keyT (l[i]'(by omega))) (keyT l[i + 1]) = true := List.pairwise_iff_getElem.1 h i (i + 1) (by omega) hi (by omega)
section
attribute [local go_sem] max2_int min2_int max_two min_two max_three min_three max_four min_four
theorem Sorted_T (A : Option Addr) (c : Nat) (l : List S41) (w : World) (hC : Kd.C k41 w A l.length l) (hc : l.length ≤ c) (hn : l.length ≤ 4611686018427387904) :
    Calls Try.prog 37 #[.slice A l.length c] w fun e w' => Below w.heap.size w w' ∧ ∃ r : Bool, e = .returned (.bool r) ∧ (r = true ↔ OkL l) := by
  have hcf := ContainsFunc67_T A c l w hC hn
  have HC := Aside0.mk hC
  clear hC
  go_enter Try.func37, Try.ntmps37
  go_wp2_with fail
  refine hcf.mono ?_
  rintro e w1 ⟨hb1, r, rfl, hr⟩
  have HB1 := Aside0.mk hb1
  cases r with
  | true =>
    have HR := Aside0.mk (okL_false_of (hr.1 rfl))
    clear hcf hb1 hr
    go_wp2
    go_ret
    exact ⟨HB1.out, false, rfl, by simp [HR.out]⟩
  | false =>
    have hall : ∀ d ∈ l, d.f1.length ≠ 0 := fun d hd he => absurd (hr.2 ⟨d, hd, he⟩) (by simp)
    have HALL := Aside0.mk hall
    clear hcf hb1 hr hall
    by_cases h1 : l.length ≤ 1
    · have hle : (l.length : Int) ≤ 1 := by omega
      have HOK : Aside0 (OkL l) := ⟨HALL.out, by
        match l, h1 with
        | [], _ => exact List.Pairwise.nil
        | [a], _ => exact List.pairwise_singleton _ _⟩
      go_wp2
      all_goals
        go_loopg [12] 0 (fun kx a wr => a = .int .i64 0 ∧ wr = w1)
        case atStart => exact ⟨rfl, rfl⟩
        case round =>
          obtain ⟨rfl, rfl⟩ := hrel
          go_wp2
          go_ret
          exact ⟨HB1.out, true, rfl, by simp [HOK.out]⟩
    · have hle : ¬ (l.length : Int) ≤ 1 := by omega
      have hle2 : (1 : Int) ≤ (l.length : Int) := by omega
      have hle3 : (1 : Int) < (l.length : Int) := by omega
      have hc1 : ¬ c = 1 := by omega
      go_wp2
      go_loopg [12] l.length (fun kx a wr => ∃ i : Nat, a = .int .i64 i ∧ i + 1 ≤ l.length ∧ l.length - i ≤ kx ∧ Aside0 (Below w.heap.size w wr) ∧ Aside0 (∀ (j : Nat) (h : j + 1 < l.length), j < i → lessT (keyT (l[j]'(by omega))) (keyT l[j + 1]) = true))
      case atStart => exact ⟨0, rfl, by omega, by omega, HB1, ⟨fun j _ h => absurd h (Nat.not_lt_zero _)⟩⟩
      case round =>
        obtain ⟨i, rfl, hi, hkx, HB, HA⟩ := hrel
        by_cases hlt : i + 1 < l.length
        · have hz0 : (0 : Int) ≤ (i : Int) := by omega
          have hz1 : (i : Int) < ((l.length - 1 : Nat) : Int) := by omega
          have hz2 : (i : Int) < (l.length : Int) := by omega
          have hz3 : (0 : Int) ≤ (i : Int) + 1 := by omega
          have hz4 : (i : Int) + 1 < (l.length : Int) := by omega
          have hCr := Kd.C_below HC.out HB.out
          obtain ⟨ad, Ar, cr, eA, x0, x1, hcr, hCi⟩ := at_T41 hCr (i : Int) hz0 hz2
          subst eA
          obtain ⟨ad', Br, dr, eA, y0, y1, hdr, hCj⟩ := at_T41 hCr ((i + 1 : Nat) : Int) (by omega) (by omega)
          cases eA
          rw [rdD_at l i (by omega)] at x0 x1 hcr hCi
          rw [rdD_at l (i + 1) hlt] at y0 y1 hdr hCj
          simp only [Int.toNat_natCast] at x0 x1 y0 y1
          have hdi := HALL.out _ (List.getElem_mem (show i < l.length by omega))
          have hdj := HALL.out _ (List.getElem_mem hlt)
          have HA2 := Aside0.mk (fun (hne : lessT (keyT (l[i]'(by omega))) (keyT l[i + 1]) = true) (j : Nat) (h : j + 1 < l.length) (hj : j < i + 1) => show lessT (keyT (l[j]'(by omega))) (keyT l[j + 1]) = true from by
            by_cases e : j = i
            · subst e; exact hne
            · exact HA.out j h (by omega))
          have HB2 := Aside0.mk (fun (hs : SortedD l) => sorted_at hs i hlt)
          generalize l[i]'(by omega) = di at *
          generalize l[i + 1] = dj at *
          have hp1 : (0 : Int) < (di.f1.length : Int) := by omega
          have hp2 : (0 : Int) < (dj.f1.length : Int) := by omega
          obtain ⟨ak, eK, k0, k1, k2⟩ := at_T37 hCi (0 : Int) (by omega) hp1
          subst eK
          obtain ⟨bk, eK, m0, m1, m2⟩ := at_T37 hCj (0 : Int) (by omega) hp2
          subst eK
          have P1 : ∀ s : SomeW wr, s.W.cell? ⟨(ad.add (i * 2)).block, (ad.add (i * 2)).off + 1, none⟩ = some (.slice (some ak) di.f1.length cr) := fun s => cell_some x1 s
          have Q1 : ∀ s : SomeW wr, s.W.cell? ⟨(ad.add ((i + 1) * 2)).block, (ad.add ((i + 1) * 2)).off + 1, none⟩ = some (.slice (some bk) dj.f1.length dr) := fun s => cell_some y1 s
          have K0 : ∀ s : SomeW wr, s.W.cell? ak = some (.bool (keyT di).f0) := fun s => cell_some k0 s
          have K1 : ∀ s : SomeW wr, s.W.cell? ⟨ak.block, ak.off + 1, none⟩ = some (.int .i64 (keyT di).f1) := fun s => cell_some k1 s
          have K2 : ∀ s : SomeW wr, s.W.cell? ⟨ak.block, ak.off + 2, none⟩ = some (.string (keyT di).f2) := fun s => cell_some k2 s
          have M0 : ∀ s : SomeW wr, s.W.cell? bk = some (.bool (keyT dj).f0) := fun s => cell_some m0 s
          have M1 : ∀ s : SomeW wr, s.W.cell? ⟨bk.block, bk.off + 1, none⟩ = some (.int .i64 (keyT dj).f1) := fun s => cell_some m1 s
          have M2 : ∀ s : SomeW wr, s.W.cell? ⟨bk.block, bk.off + 2, none⟩ = some (.string (keyT dj).f2) := fun s => cell_some m2 s
          have hcmp := fun V => cmp_T (keyT di) (keyT dj) V
          have hlt2 : lessT (keyT di) (keyT dj) = true ↔ Thy.cmpV (keyT di).f0 (keyT di).f1 (keyT di).f2 (keyT dj).f0 (keyT dj).f1 (keyT dj).f2 < 0 := Thy.cmpV_lt.symm
          generalize Thy.cmpV (keyT di).f0 (keyT di).f1 (keyT di).f2 (keyT dj).f0 (keyT dj).f1 (keyT dj).f2 = cv at *
          have HLT := Aside0.mk hlt2
          clear x0 x1 y0 y1 hcr hdr hCi hCj hCr hdi hdj k0 k1 k2 m0 m1 m2 hlt2 HA
          go_wp2
          refine wp_region_quiet_some mixed_T (by kernel_rfl) ?_
          repeat (go_big_quiet_step (first | (go_at_call 41; refine Calls.below_some (hcmp _))))
          refine wpQuiet_nil ?_
          intro w3 hw'
          obtain ⟨p_, hp_⟩ := hw'
          have hb3 : Below wr.heap.size wr w3 := by rw [hp_]; exact p_.h
          have HB3 := Aside0.mk (below_then HB.out HB.out.size hb3)
          clear hp_ p_ P1 Q1 K0 K1 K2 M0 M1 M2 hcmp hb3
          by_cases hcv : cv < 0
          · have hge : ¬ cv ≥ 0 := by omega
            have hgb : decide (cv ≥ 0) = false := decide_eq_false hge
            have HA3 := Aside0.mk (HA2.out (HLT.out.2 hcv))
            go_wp2
            go_roundg (l.length - (i + 1))
            case measure => omega
            case rel => exact ⟨i + 1, by go_num, by omega, by omega, HB3, HA3⟩
          · have hge : cv ≥ 0 := by omega
            have hgb : decide (cv ≥ 0) = true := decide_eq_true hge
            have HNO : Aside0 (¬ OkL l) := ⟨fun hok => hcv (HLT.out.1 (HB2.out hok.2))⟩
            go_wp2
            go_ret
            first | exact ⟨HB3.out, .inl ⟨rfl, HNO.out⟩⟩ | exact ⟨HB3.out, HNO.out⟩ | exact ⟨HB3.out, false, rfl, by simp [HNO.out]⟩
        · have hie : i = l.length - 1 := by omega
          subst hie
          have HOK : Aside0 (OkL l) := ⟨HALL.out, sorted_adj (fun j hj => HA.out j hj (by omega))⟩
          go_wp2
          go_ret
          exact ⟨HB.out, true, rfl, by simp [HOK.out]⟩
end
end Go.Proofs.Ythlelhndmnkmjaa.Pr
end
section
namespace Go.Proofs.Ythlelhndmnkmjaa.Pr
open Go.RowKit Go.Proofs.Ythlelhndmnkmjaa.Brid Go.Proofs.YthlelhndmnkmjaaW.PrintWords Go.Proofs.YthlelhndmnkmjaaW.PrintLast Go.Proofs.YthlelhndmnkmjaaW.PrintMore
set_option linter.unusedVariables false
set_option linter.unusedSimpArgs false
set_option maxHeartbeats 4000000
set_option maxRecDepth 100000
def sumLen (xss : List (List S41)) : Nat := xss.flatten.length
/-- what is waiting behind the first a lists -/
def waitL (xss : List (List S41)) : Nat → List S70
  | 0 => []
  | a + 1 => waitL xss a ++ (match xss[a]? with | some l => if l.length = 0 then [] else [⟨l, (a : Int)⟩] | none => [])
theorem waitL_succ {xss : List (List S41)} {i : Nat} (h : i < xss.length) : waitL xss (i + 1) = if xss[i].length = 0 then waitL xss i else waitL xss i ++ [⟨xss[i], (i : Int)⟩] := by
  rw [waitL, List.getElem?_eq_getElem h]
  simp only
  split <;> simp
theorem waitL_len (xss : List (List S41)) (a : Nat) : (waitL xss a).length ≤ a := by
  induction a with
  | zero => simp [waitL]
  | succ a ih =>
    rw [waitL, List.length_append]
    rcases xss[a]? with _ | l
    · simp; omega
    · simp only
      split <;> simp <;> omega
theorem C_list {w : World} {A : Option Addr} {n : Nat} {xss : List (List S41)} (h : Kd.C (Kd.slice 41 k41) w A n xss) (i : Nat) (hi : i < xss.length) : ∃ ad A0 c0, A = some ad ∧ w.cell? (ad.add i) = some (.slice A0 xss[i].length c0) ∧ xss[i].length ≤ c0 ∧ Kd.C k41 w A0 xss[i].length xss[i] := by
  obtain ⟨ad, cs, e, hl, hk, hc⟩ := Kd.C_get h [] (i : Int) (by omega) (by have := h.1; omega)
  simp only [Int.toNat_natCast] at hk hc
  rw [List.getD_eq_getElem?_getD, List.getElem?_eq_getElem hi, Option.getD_some] at hk
  obtain ⟨A0, c0, rfl, h1, h2⟩ := hk
  have h3 := hc 0 _ rfl
  exact ⟨ad, A0, c0, e, by simpa [Kd.slice] using h3, h1, h2⟩
def nwV (xss : List (List S41)) : List S41 := putsV xss.reverse.flatten
structure NewPost (xss : List (List S41)) (w : World) (e : Ending) (w' : World) : Prop where
  below : Below w.heap.size w w'
  good : (∀ l ∈ xss, OkL l) → ∃ A c, e = .returned (.tuple #[.slice A (nwV xss).length c, .int .i64 0]) ∧ (nwV xss).length ≤ c ∧ Kd.C k41 w' A (nwV xss).length (nwV xss)
  bad : ¬ (∀ l ∈ xss, OkL l) → e = .returned (.tuple #[.slice none 0 0, .int .i64 1])
theorem show_goal {p : Prop} (h : Aside0 p) : p := h.out
theorem append_fin {w w1 w2 : World} {p cw : Nat} {Aw A1 : Option Addr} {c1 : Nat} {O : Nat → Prop} {l : List S70} {x : S70} (HB : Below w.heap.size w w1) (hO : ∀ k, O k → w.heap.size ≤ k) (hpw : w.heap.size ≤ p) (hnO : ¬ O p)
    (hp1 : w1.heap[p]? = some (.cells #[.slice Aw l.length cw] 68 (0, 0))) (hR : Kd.R (oldK k70 w) 70 w1 w.heap.size O (.slice Aw l.length cw) l) (hR1 : Kd.R (oldK k70 w) 70 w2 w.heap.size (fun k => O k ∨ w1.heap.size ≤ k) (.slice A1 (l.length + 1) c1) (l ++ [x]))
    (hg : w1.grownBy w2 (Value.slice Aw l.length cw).ownBlock) : Below w.heap.size w (w2.setCell ⟨p, 0, none⟩ (.slice A1 (l.length + 1) c1)) ∧ ∃ O' : Nat → Prop, (∀ k, O' k → w.heap.size ≤ k ∧ k < (w2.setCell ⟨p, 0, none⟩ (.slice A1 (l.length + 1) c1)).heap.size) ∧ WaitS (w2.setCell ⟨p, 0, none⟩ (.slice A1 (l.length + 1) c1)) w p O' (l ++ [x]) := by
  have hpl := (Array.getElem?_eq_some_iff.1 hp1).1
  have hne : some p ≠ (Value.slice Aw l.length cw).ownBlock := fun e => hnO (hR.1 p e.symm)
  have hp2 := (hg.block p hpl hne).trans hp1
  have hF : Fr (fun k => k = p ∨ O k) w1 w2 := ⟨hg.os, hg.tape, hg.output, hg.size, fun k hk hno => hg.block k hk (fun e => hno (.inr (hR.1 k e.symm)))⟩
  refine ⟨below_fr HB (hF.set (.inl (.inl rfl)) 0 _) (fun k hk => hk.elim (fun e => by omega) (hO k)), ?_⟩
  have hr2 := Kd.R_set hR1 hp2 (fun q hq => by simp [oldK] at hq; omega) 0 (.slice A1 (l.length + 1) c1)
  have hr3 := Kd.R_bound hr2
  refine ⟨_, ?_, A1, c1, ?_, by rw [List.length_append, List.length_singleton]; exact hr3, ?_⟩
  · exact fun k hk => ⟨hk.2.1, hk.2.2.1⟩
  · rw [List.length_append, List.length_singleton]; exact blk_set hp2 0 _
  · exact fun h => h.1.elim hnO (fun h => by omega)
theorem wait_start (w : World) : ∃ O : Nat → Prop, (∀ k, O k → w.heap.size ≤ k ∧ k < ((w.alloc (Obj.cells #[] 70)).alloc (Obj.cells #[Value.slice (some { block := w.heap.size, off := 0 }) 0 0] 68)).heap.size) ∧ WaitS ((w.alloc (Obj.cells #[] 70)).alloc (Obj.cells #[Value.slice (some { block := w.heap.size, off := 0 }) 0 0] 68)) w (w.heap.size + 1) O ([] : List S70) := by
  have h1 : (w.alloc (Obj.cells #[] 70)).heap[w.heap.size]? = some (.cells #[] 70 (0, 0)) := heap_alloc_new w _
  have hz : (w.alloc (Obj.cells #[] 70)).heap.size = w.heap.size + 1 := by simp
  have h2 := heap_alloc_new (w.alloc (Obj.cells #[] 70)) (Obj.cells #[Value.slice (some { block := w.heap.size, off := 0 }) 0 0] 68)
  rw [hz] at h2
  have h3 := blk_below h1 (below_alloc (Below.refl _ _) (Obj.cells #[Value.slice (some { block := w.heap.size, off := 0 }) 0 0] 68))
  refine ⟨fun k => k = w.heap.size, fun k hk => ⟨by omega, by simp; omega⟩, some ⟨w.heap.size, 0, none⟩, 0, h2, ⟨fun k hk => ?_, [], ⟨rfl, .inr ⟨w.heap.size, 0, #[], rfl, Nat.le_refl _, h3, Nat.le_refl _, Nat.zero_le _, rfl, rfl⟩⟩, Reps.none _ _⟩, by omega⟩
  simp [Value.ownBlock] at hk
  exact hk.symm
theorem len_flat {xss : List (List S41)} {l : List S41} (h : l ∈ xss) : l.length ≤ sumLen xss := by
  unfold sumLen
  exact (List.sublist_flatten_of_mem h).length_le
theorem eqK_comm (a b : S37) : eqK a b = eqK b a := by
  cases h : eqK a b with
  | true => exact (eqK_symm h).symm
  | false =>
    cases h2 : eqK b a with
    | false => rfl
    | true => rw [eqK_symm h2] at h; cases h
theorem findV_congr {k k' : S37} (h : eqK k k' = true) (ds : List S41) : findV ds k = findV ds k' := by
  unfold findV
  congr 1
  funext e
  cases h1 : eqK (keyT e) k with
  | true => exact (eqK_trans h1 h).symm
  | false =>
    cases h2 : eqK (keyT e) k' with
    | false => rfl
    | true => rw [eqK_trans h2 (eqK_symm h)] at h1; cases h1
theorem findV_key {ds : List S41} {k : S37} {d : S41} (h : findV ds k = some d) : eqK (keyT d) k = true := by
  have := List.find?_some h
  exact this
theorem findV_in {ds : List S41} {k : S37} {d : S41} (h : findV ds k = some d) : d ∈ ds := List.mem_of_find?_eq_some h
theorem less_notEq {a b : S37} (h : lessT a b = true) : eqK a b = false ∧ eqK b a = false := by
  constructor
  · cases h1 : eqK a b with
    | false => rfl
    | true => rw [(eqK_iff.1 h1).1] at h; cases h
  · cases h1 : eqK b a with
    | false => rfl
    | true => rw [(eqK_iff.1 h1).2] at h; cases h
theorem newV_find (k : S37) : ∀ (x : List S41) (acc : Option S41), OkL x → newV k acc x = (findV x k).or acc := by
  intro x
  induction x with
  | nil => intro acc _; simp [newV, findV]
  | cons d x ih =>
    intro acc h
    have hs := List.pairwise_cons.1 h.2
    have h0 := h.1 d (List.mem_cons_self)
    have hx : OkL x := ⟨fun e he => h.1 e (List.mem_cons_of_mem _ he), hs.2⟩
    have e1 : newV k acc (d :: x) = newV k (if d.f1.length = 0 then acc else if eqK (keyT d) k = true then some d else acc) x := rfl
    rw [e1, if_neg h0, ih _ hx]
    unfold findV
    rw [List.find?_cons]
    cases hk : eqK (keyT d) k with
    | false => simp
    | true =>
      have hn : x.find? (fun e => eqK (keyT e) k) = none := by
        rw [List.find?_eq_none]
        intro e he hc
        have h1 := hs.1 e he
        have h2 := (less_notEq h1).1
        rw [eqK_trans hk (eqK_symm hc)] at h2
        cases h2
      rw [hn]
      simp
theorem findV_nw (k : S37) : ∀ xss : List (List S41), (∀ l ∈ xss, OkL l) → findV (nwV xss) k = xss.findSome? (fun l => findV l k) := by
  intro xss h
  rw [nwV, ← getV_find _ _ (putsV_sorted _), getV_puts]
  induction xss with
  | nil => rfl
  | cons x xs ih =>
    rw [List.reverse_cons, List.flatten_append, newV_app, ih (fun l hl => h l (List.mem_cons_of_mem _ hl)), List.flatten_cons, List.flatten_nil, List.append_nil, newV_find k x _ (h x List.mem_cons_self), List.findSome?_cons]
    cases findV x k <;> rfl
theorem nwV_sorted (xss : List (List S41)) : SortedD (nwV xss) := putsV_sorted _
theorem nwV_mem {xss : List (List S41)} (h : ∀ l ∈ xss, OkL l) (d : S41) : d ∈ nwV xss ↔ xss.findSome? (fun l => findV l (keyT d)) = some d := by
  rw [← findV_nw _ xss h]
  exact ⟨fun hd => findV_mem (nwV_sorted xss) hd, fun hd => findV_in hd⟩
theorem nwV_len (xss : List (List S41)) : (nwV xss).length ≤ sumLen xss := by
  refine Nat.le_trans (putsV_len _) ?_
  unfold sumLen
  exact Nat.le_of_eq (by rw [List.length_flatten, List.length_flatten, List.map_reverse, List.sum_reverse])
theorem nwV_ok {xss : List (List S41)} : OkL (nwV xss) := ⟨fun d hd => (putsV_mem hd).2, nwV_sorted _⟩
/-- the newest of its key -/
theorem newest_of {xss : List (List S41)} (hok : ∀ l ∈ xss, OkL l) {i : Nat} (hi : i < xss.length) {e : S41} (he : e ∈ xss[i]) (hn : ∀ (j : Nat) (h : j < i), ∀ e' ∈ xss[j]'(by omega), eqK (keyT e') (keyT e) = false) : xss.findSome? (fun l => findV l (keyT e)) = some e := by
  rw [List.findSome?_eq_some_iff]
  refine ⟨xss.take i, xss[i], xss.drop (i + 1), by simp, findV_mem (hok _ (List.getElem_mem hi)).2 he, fun l hl => ?_⟩
  obtain ⟨j, hj, rfl⟩ := List.getElem_of_mem hl
  rw [List.length_take] at hj
  rw [List.getElem_take]
  unfold findV
  rw [List.find?_eq_none]
  intro e' he' hc
  rw [hn j (by omega) e' he'] at hc
  cases hc
/-- what the loop keeps -/
structure NI (xss : List (List S41)) (d : List S70) (out : List S41) : Prop where
  src : ∀ x ∈ d, x.f0 ≠ [] ∧ ∃ (i : Nat) (h : i < xss.length), x.f1 = i ∧ x.f0 <:+ xss[i]
  ages : (d.map (·.f1)).Nodup
  sorted : SortedD out
  new : ∀ e ∈ out, xss.findSome? (fun l => findV l (keyT e)) = some e
  cover : ∀ (i : Nat) (h : i < xss.length), ∀ e ∈ xss[i], (∃ x ∈ d, x.f1 = i ∧ e ∈ x.f0) ∨ ∃ o ∈ out, eqK (keyT o) (keyT e) = true
  lim : ∀ x ∈ d, ∀ e ∈ x.f0, ∀ o ∈ out, lessT (keyT e) (keyT o) = false
  cnt : out.length + (d.map (·.f0.length)).sum ≤ sumLen xss
theorem NI.perm {xss : List (List S41)} {d d' : List S70} {out : List S41} (h : NI xss d out) (hp : d'.Perm d) : NI xss d' out :=
  ⟨fun x hx => h.src x (hp.mem_iff.1 hx), (hp.map _).nodup_iff.2 h.ages, h.sorted, h.new, fun i hi e he => (h.cover i hi e he).imp (fun ⟨x, hx, hr⟩ => ⟨x, hp.mem_iff.2 hx, hr⟩) id, fun x hx => h.lim x (hp.mem_iff.1 hx), by
    have := (hp.map (fun x : S70 => x.f0.length)).sum_nat
    rw [this]; exact h.cnt⟩
theorem NI.done {xss : List (List S41)} {out : List S41} (h : NI xss [] out) (hok : ∀ l ∈ xss, OkL l) : out = nwV xss := by
  refine sorted_ext h.sorted (nwV_sorted xss) fun d => ⟨fun hd => (nwV_mem hok d).2 (h.new d hd), fun hd => ?_⟩
  have h1 := (nwV_mem hok d).1 hd
  obtain ⟨l1, a, l2, he, hf, _⟩ := List.findSome?_eq_some_iff.1 h1
  have hm : a ∈ xss := by rw [he]; simp
  obtain ⟨i, hi, rfl⟩ := List.getElem_of_mem hm
  rcases h.cover i hi d (findV_in hf) with ⟨x, hx, _⟩ | ⟨o, ho, hk⟩
  · cases hx
  · have h2 := h.new o ho
    rw [show (fun l => findV l (keyT o)) = (fun l => findV l (keyT d)) from funext fun l => findV_congr hk l, h1] at h2
    cases h2
    exact ho
theorem suffix_head {h : S41} {t l : List S41} (hs : (h :: t) <:+ l) (hl : SortedD l) : (∀ e ∈ t, lessT (keyT h) (keyT e) = true) ∧ h ∈ l ∧ SortedD (h :: t) := by
  have h1 : SortedD (h :: t) := List.Pairwise.sublist hs.sublist hl
  exact ⟨(List.pairwise_cons.1 h1).1, hs.sublist.mem List.mem_cons_self, h1⟩
theorem suffix_le {h : S41} {t l : List S41} (hs : (h :: t) <:+ l) (hl : SortedD l) {e : S41} (he : e ∈ h :: t) : lessT (keyT e) (keyT h) = false := by
  rcases List.mem_cons.1 he with rfl | he
  · exact lessT_irrefl _
  · exact lessT_asymm ((suffix_head hs hl).1 e he)
theorem hkT_cons (h : S41) (t : List S41) (a : Int) : hkT ⟨h :: t, a⟩ = keyT h := by simp [hkT, rd_T41]
/-- where the least is taken -/
theorem NI.step {xss : List (List S41)} {l : List S70} {out : List S41} {h : S41} {t : List S41} {a : Int} (H : NI xss (l ++ [⟨h :: t, a⟩]) out) (hok : ∀ l ∈ xss, OkL l) (hmin : ∀ y ∈ l ++ [(⟨h :: t, a⟩ : S70)], lessH y ⟨h :: t, a⟩ = false) :
    NI xss (if t = [] then l else l ++ [⟨t, a⟩]) (if ∃ o, out.getLast? = some o ∧ eqK (keyT o) (keyT h) = true then out else out ++ [h]) := by
  have hxm : (⟨h :: t, a⟩ : S70) ∈ l ++ [(⟨h :: t, a⟩ : S70)] := by simp
  obtain ⟨_, ix, hix, hax, hsx⟩ := H.src _ hxm
  have hax' : a = ix := hax
  have hsx' : (h :: t) <:+ xss[ix] := hsx
  have hokx := hok _ (List.getElem_mem hix)
  have hsh := suffix_head hsx' hokx.2
  -- any that is left is not ahead of h
  have hrem : ∀ y ∈ l ++ [(⟨h :: t, a⟩ : S70)], ∀ e ∈ y.f0, lessT (keyT e) (keyT h) = false := by
    intro y hy e he
    obtain ⟨hne, iy, hiy, hay, hsy⟩ := H.src y hy
    obtain ⟨yl, ya⟩ := y
    cases yl with
    | nil => cases he
    | cons hy1 ty =>
      have h1 := suffix_le hsy (hok _ (List.getElem_mem hiy)).2 he
      have h2 := hmin _ hy
      have h3 : lessT (keyT hy1) (keyT h) = false := by
        have : lessH ⟨hy1 :: ty, ya⟩ ⟨h :: t, a⟩ = false := h2
        simp only [lessH, hkT_cons, Bool.or_eq_false_iff] at this
        exact this.1
      exact notlessT_trans h1 h3
  have hlast : ∀ o ∈ out, lessT (keyT h) (keyT o) = false := fun o ho => H.lim _ hxm h List.mem_cons_self o ho
  -- when an element of out has h's key it is the last
  have hlk : (¬ ∃ o, out.getLast? = some o ∧ eqK (keyT o) (keyT h) = true) → ∀ o ∈ out, lessT (keyT o) (keyT h) = true := by
    intro hno o ho
    have hne : out ≠ [] := List.ne_nil_of_mem ho
    have hg := List.getLast?_eq_some_getLast hne
    have hg2 : eqK (keyT (out.getLast hne)) (keyT h) = false := by
      cases hx : eqK (keyT (out.getLast hne)) (keyT h) with
      | false => rfl
      | true => exact absurd ⟨_, hg, hx⟩ hno
    have hll : lessT (keyT (out.getLast hne)) (keyT h) = true := by
      cases hx : lessT (keyT (out.getLast hne)) (keyT h) with
      | true => rfl
      | false =>
        rw [eqK_iff.2 ⟨hx, hlast _ (List.getLast_mem hne)⟩] at hg2
        cases hg2
    rw [← List.dropLast_concat_getLast hne] at ho
    rcases List.mem_append.1 ho with h1 | h1
    · have hs := H.sorted
      rw [SortedD, ← List.dropLast_concat_getLast hne, List.pairwise_append] at hs
      exact lessT_trans (hs.2.2 o h1 _ (by simp)) hll
    · rw [List.mem_singleton.1 h1]; exact hll
  -- out'
  have hsub : ∀ o ∈ out, o ∈ (if ∃ o, out.getLast? = some o ∧ eqK (keyT o) (keyT h) = true then out else out ++ [h]) := by
    intro o ho
    split
    · exact ho
    · exact List.mem_append_left _ ho
  have hhas : ∃ o ∈ (if ∃ o, out.getLast? = some o ∧ eqK (keyT o) (keyT h) = true then out else out ++ [h]), eqK (keyT o) (keyT h) = true := by
    split
    · rename_i hx
      obtain ⟨o, ho, hk⟩ := hx
      exact ⟨o, List.mem_of_getLast? ho, hk⟩
    · exact ⟨h, by simp, eqK_refl _⟩
  have hd' : ∀ x ∈ (if t = [] then l else l ++ [(⟨t, a⟩ : S70)]), x ∈ l ∨ (t ≠ [] ∧ x = ⟨t, a⟩) := by
    intro x hx
    split at hx
    · exact .inl hx
    · rcases List.mem_append.1 hx with h1 | h1
      · exact .inl h1
      · exact .inr ⟨by assumption, List.mem_singleton.1 h1⟩
  refine ⟨fun x hx => ?_, ?_, ?_, fun e he => ?_, fun i hi e he => ?_, fun x hx e he o ho => ?_, ?_⟩
  · rcases hd' x hx with h1 | ⟨h1, rfl⟩
    · exact H.src x (List.mem_append_left _ h1)
    · exact ⟨h1, ix, hix, hax, List.IsSuffix.trans (List.suffix_cons h t) hsx'⟩
  · have hag := H.ages
    rw [List.map_append] at hag
    split
    · exact (List.nodup_append.1 hag).1
    · rw [List.map_append]; exact hag
  · split
    · exact H.sorted
    · rename_i hx
      rw [SortedD, List.pairwise_append]
      refine ⟨H.sorted, List.pairwise_singleton _ _, fun o ho e he => ?_⟩
      rw [List.mem_singleton.1 he]
      exact hlk hx o ho
  · have he2 : e ∈ out ∨ ((¬ ∃ o, out.getLast? = some o ∧ eqK (keyT o) (keyT h) = true) ∧ e = h) := by
      split at he
      · exact .inl he
      · rcases List.mem_append.1 he with h1 | h1
        · exact .inl h1
        · exact .inr ⟨by assumption, List.mem_singleton.1 h1⟩
    rcases he2 with h1 | ⟨hx, rfl⟩
    · exact H.new e h1
    · refine newest_of hok hix hsh.2.1 fun j hj e' he' => ?_
      cases hq : eqK (keyT e') (keyT e) with
      | false => rfl
      | true =>
        exfalso
        rcases H.cover j (by omega) e' he' with ⟨y, hy, hyj, hey⟩ | ⟨o, ho, hko⟩
        · obtain ⟨hne, iy, hiy, hay, hsy⟩ := H.src y hy
          obtain ⟨yl, ya⟩ := y
          cases yl with
          | nil => cases hey
          | cons hy1 ty =>
            have h1 := suffix_le hsy (hok _ (List.getElem_mem hiy)).2 hey
            have h2 : lessH ⟨hy1 :: ty, ya⟩ ⟨e :: t, a⟩ = false := hmin _ hy
            simp only [lessH, hkT_cons, Bool.or_eq_false_iff, Bool.and_eq_false_iff] at h2
            have h3 : lessT (keyT e) (keyT hy1) = false := notlessT_trans (eqK_iff.1 hq).2 h1
            rcases h2.2 with h4 | h4
            · rw [eqK_iff.2 ⟨h2.1, h3⟩] at h4; cases h4
            · have : ya = (j : Int) := hyj
              have h5 := of_decide_eq_false h4
              omega
        · have h1 := hlk hx o ho
          have h2 := (less_notEq h1).1
          rw [eqK_trans hko hq] at h2
          cases h2
  · rcases H.cover i hi e he with ⟨y, hy, hyi, hey⟩ | ⟨o, ho, hk⟩
    · rcases List.mem_append.1 hy with h1 | h1
      · refine .inl ⟨y, ?_, hyi, hey⟩
        split
        · exact h1
        · exact List.mem_append_left _ h1
      · rw [List.mem_singleton.1 h1] at hey hyi
        rcases List.mem_cons.1 hey with rfl | h2
        · obtain ⟨o, ho, hk⟩ := hhas
          exact .inr ⟨o, ho, hk⟩
        · refine .inl ⟨⟨t, a⟩, ?_, hyi, h2⟩
          rw [if_neg (List.ne_nil_of_mem h2)]
          simp
    · exact .inr ⟨o, hsub o ho, hk⟩
  · have hxe : ∃ y ∈ l ++ [(⟨h :: t, a⟩ : S70)], e ∈ y.f0 := by
      rcases hd' x hx with h1 | ⟨_, rfl⟩
      · exact ⟨x, List.mem_append_left _ h1, he⟩
      · exact ⟨⟨h :: t, a⟩, by simp, List.mem_cons_of_mem _ he⟩
    obtain ⟨y, hy, hey⟩ := hxe
    split at ho
    · exact H.lim y hy e hey o ho
    · rcases List.mem_append.1 ho with h1 | h1
      · exact H.lim y hy e hey o h1
      · rw [List.mem_singleton.1 h1]; exact hrem y hy e hey
  · have hc := H.cnt
    simp only [List.map_append, List.map_cons, List.map_nil, List.sum_append, List.sum_cons, List.sum_nil, List.length_cons] at hc
    have e1 : (if ∃ o, out.getLast? = some o ∧ eqK (keyT o) (keyT h) = true then out else out ++ [h]).length ≤ out.length + 1 := by
      split <;> simp
    have e2 : ((if t = [] then l else l ++ [(⟨t, a⟩ : S70)]).map (·.f0.length)).sum ≤ (l.map (·.f0.length)).sum + t.length := by
      split <;> simp
    omega
theorem NI.start {xss : List (List S41)} : NI xss (waitL xss xss.length) [] := by
  have hmem : ∀ (i : Nat), i ≤ xss.length → ∀ x ∈ waitL xss i, x.f0 ≠ [] ∧ ∃ (j : Nat) (h : j < xss.length), j < i ∧ x.f1 = j ∧ x.f0 = xss[j] := by
    intro i
    induction i with
    | zero => intro _ x hx; simp [waitL] at hx
    | succ i ih =>
      intro hi x hx
      rw [waitL_succ (by omega)] at hx
      by_cases h0 : xss[i].length = 0
      · rw [if_pos h0] at hx
        obtain ⟨h1, j, h2, h3, h4⟩ := ih (by omega) x hx
        exact ⟨h1, j, h2, by omega, h4⟩
      · rw [if_neg h0] at hx
        rcases List.mem_append.1 hx with hx | hx
        · obtain ⟨h1, j, h2, h3, h4⟩ := ih (by omega) x hx
          exact ⟨h1, j, h2, by omega, h4⟩
        · rw [List.mem_singleton.1 hx]
          exact ⟨fun e => h0 (by rw [show xss[i] = [] from e]; rfl), i, by omega, by omega, rfl, rfl⟩
  have hcov : ∀ (i : Nat), i ≤ xss.length → ∀ (j : Nat) (h : j < xss.length), j < i → ∀ e ∈ xss[j], ∃ x ∈ waitL xss i, x.f1 = j ∧ e ∈ x.f0 := by
    intro i
    induction i with
    | zero => intro _ j _ h; omega
    | succ i ih =>
      intro hi j hj hji e he
      rw [waitL_succ (by omega)]
      by_cases hq : j = i
      · subst hq
        have : xss[j].length ≠ 0 := fun h0 => by rw [List.length_eq_zero_iff.1 h0] at he; cases he
        rw [if_neg this]
        exact ⟨_, List.mem_append_right _ (List.mem_singleton.2 rfl), rfl, he⟩
      · obtain ⟨x, hx, hr⟩ := ih (by omega) j hj (by omega) e he
        refine ⟨x, ?_, hr⟩
        split
        · exact hx
        · exact List.mem_append_left _ hx
  have hnd : ∀ (i : Nat), i ≤ xss.length → ((waitL xss i).map (·.f1)).Nodup := by
    intro i
    induction i with
    | zero => intro _; simp [waitL]
    | succ i ih =>
      intro hi
      rw [waitL_succ (by omega)]
      split
      · exact ih (by omega)
      · rw [List.map_append, List.nodup_append]
        refine ⟨ih (by omega), by simp, fun a ha b hb => ?_⟩
        obtain ⟨x, hx, rfl⟩ := List.mem_map.1 ha
        obtain ⟨_, j, _, h3, h4, _⟩ := hmem i (by omega) x hx
        have hb' : b = (i : Int) := by simpa using hb
        omega
  have hcn : ∀ (i : Nat), i ≤ xss.length → ((waitL xss i).map (·.f0.length)).sum = ((xss.take i).map List.length).sum := by
    intro i
    induction i with
    | zero => intro _; simp [waitL]
    | succ i ih =>
      intro hi
      rw [waitL_succ (by omega), List.take_succ_eq_append_getElem (by omega), List.map_append, List.sum_append, ← ih (by omega)]
      split
      · rename_i h0; simp [h0]
      · simp
  refine ⟨fun x hx => ?_, hnd _ (Nat.le_refl _), List.Pairwise.nil, fun e he => (by cases he), fun i hi e he => .inl (hcov _ (Nat.le_refl _) i hi hi e he), fun x hx e he o ho => (by cases ho), ?_⟩
  · obtain ⟨h1, j, h2, _, h4, h5⟩ := hmem _ (Nat.le_refl _) x hx
    exact ⟨h1, j, h2, h4, by rw [h5]; exact List.suffix_refl _⟩
  · have := hcn _ (Nat.le_refl _)
    rw [this, List.take_length, sumLen, List.length_flatten]
    simp
end Go.Proofs.Ythlelhndmnkmjaa.Pr
end
section
namespace Go.Proofs.Ythlelhndmnkmjaa.Pr
open Go.RowKit Go.Proofs.Ythlelhndmnkmjaa.Brid Go.Proofs.YthlelhndmnkmjaaW.PrintWords Go.Proofs.YthlelhndmnkmjaaW.PrintLast Go.Proofs.YthlelhndmnkmjaaW.PrintMore
set_option linter.unusedVariables false
set_option linter.unusedSimpArgs false
set_option maxHeartbeats 4000000
set_option maxRecDepth 100000
theorem NI.good {xss : List (List S41)} {d : List S70} {out : List S41} (H : NI xss d out) (hok : ∀ l ∈ xss, OkL l) {x : S70} (hx : x ∈ d) : GoodH x := by
  obtain ⟨h1, i, hi, _, hs⟩ := H.src x hx
  obtain ⟨l, a⟩ := x
  cases l with
  | nil => exact absurd rfl h1
  | cons h t =>
    refine ⟨by simp, ?_⟩
    have := (hok _ (List.getElem_mem hi)).1 h (hs.sublist.mem List.mem_cons_self)
    have e : rd_T41 (h :: t) 0 = h := by simp [rd_T41]
    show 0 < (rd_T41 (h :: t) 0).f1.length
    rw [e]; omega
def leftN (d : Array S70) : Nat := (d.toList.map (·.f0.length)).sum
/-- the merge loop's state in memory -/
def LpI (xss : List (List S41)) (w wr : World) (p : Nat) (d : Array S70) (out : List S41) (Ao : Option Addr) (co : Nat) : Prop :=
  ∃ O1 O2 : Nat → Prop, HpS wr w p O1 d ∧ heapOk d ∧ NI xss d.toList out ∧ Kd.R (oldK k41 w) 41 wr w.heap.size O2 (.slice Ao out.length co) out ∧ (∀ k, O1 k → w.heap.size ≤ k ∧ k < wr.heap.size) ∧ (∀ k, O2 k → w.heap.size ≤ k ∧ k < wr.heap.size ∧ ¬ O1 k ∧ k ≠ p)
theorem LpI.start {xss : List (List S41)} {w wr : World} {p : Nat} {O : Nat → Prop} (h : HpS wr w p O (Go.Sort.heapBuild ltH (waitL xss xss.length).toArray.size 0 ((waitL xss xss.length).toArray.size / 2) (waitL xss xss.length).toArray)) (hO : ∀ k, O k → w.heap.size ≤ k ∧ k < wr.heap.size) :
    LpI xss w wr p (Go.Sort.heapBuild ltH (waitL xss xss.length).toArray.size 0 ((waitL xss xss.length).toArray.size / 2) (waitL xss xss.length).toArray) [] none 0 := by
  obtain ⟨h1, h2, _⟩ := init_plain (waitL xss xss.length).toArray
  exact ⟨O, fun _ => False, h, h1, NI.start.perm (by simpa using h2), Kd.R_nil _ _ _ _ _, hO, fun _ h => h.elim⟩
theorem NI.head {xss : List (List S41)} {d : Array S70} {out : List S41} (H : NI xss d.toList out) (hd : 0 < d.size) : ∃ h t a, d[0]! = (⟨h :: t, a⟩ : S70) := by
  have hm : d[0]! ∈ d.toList := by rw [bangH hd]; exact List.getElem_mem _
  have h1 := (H.src _ hm).1
  match hx : d[0]! with
  | ⟨[], a⟩ => rw [hx] at h1; exact absurd rfl h1
  | ⟨h :: t, a⟩ => exact ⟨h, t, a, rfl⟩
theorem add0_at (a : Addr) : a.add 0 = a := by simp [Addr.add]
structure MidI (w W : World) (p : Nat) (O1 O2 : Nat → Prop) (l : List S70) (out : List S41) (Ao : Option Addr) (co b : Nat) (ad0 : Addr) (n0 c0 : Nat) (a : Int) : Prop where
  hp : HpS W w p O1 l.toArray
  ok : heapOk l.toArray
  row : Kd.R (oldK k41 w) 41 W w.heap.size O2 (.slice Ao out.length co) out
  o1 : ∀ k, O1 k → w.heap.size ≤ k ∧ k < W.heap.size
  o2 : ∀ k, O2 k → w.heap.size ≤ k ∧ k < W.heap.size ∧ ¬ O1 k ∧ k ≠ p ∧ k ≠ b
  box : W.heap[b]? = some (.cells #[.slice (some ad0) n0 c0, .int .i64 a] 70 (0, 0))
  b1 : ¬ O1 b
  b2 : b ≠ p
  bw : w.heap.size ≤ b
theorem MidI.below {w W W' : World} {p : Nat} {O1 O2 : Nat → Prop} {l : List S70} {out : List S41} {Ao : Option Addr} {co b : Nat} {ad0 : Addr} {n0 c0 : Nat} {a : Int} (h : MidI w W p O1 O2 l out Ao co b ad0 n0 c0 a) (hb : Below W.heap.size W W') : MidI w W' p O1 O2 l out Ao co b ad0 n0 c0 a :=
  ⟨h.hp.below hb, h.ok, Kd.R_below h.row hb, fun k hk => ⟨(h.o1 k hk).1, Nat.lt_of_lt_of_le (h.o1 k hk).2 hb.size⟩, fun k hk => ⟨(h.o2 k hk).1, Nat.lt_of_lt_of_le (h.o2 k hk).2.1 hb.size, (h.o2 k hk).2.2⟩, blk_below h.box hb, h.b1, h.b2, h.bw⟩
theorem MidI.app {w W W' : World} {p : Nat} {O1 O2 : Nat → Prop} {l : List S70} {out : List S41} {h : S41} {Ao A1 : Option Addr} {co c1 b : Nat} {ad0 : Addr} {n0 c0 : Nat} {a : Int} (H : MidI w W p O1 O2 l out Ao co b ad0 n0 c0 a) (hg : W.grownBy W' (Value.slice Ao out.length co).ownBlock)
    (hR : Kd.R (oldK k41 w) 41 W' w.heap.size (fun k => O2 k ∨ W.heap.size ≤ k) (.slice A1 (out.length + 1) c1) (out ++ [h])) : MidI w W' p O1 (fun k => (O2 k ∨ W.heap.size ≤ k) ∧ k < W'.heap.size) l (out ++ [h]) A1 c1 b ad0 n0 c0 a := by
  have hF : Fr (fun k => O2 k) W W' := ⟨hg.os, hg.tape, hg.output, hg.size, fun k hk hno => hg.block k hk (fun e => hno (H.row.1 k e.symm))⟩
  have hbl : b < W.heap.size := (Array.getElem?_eq_some_iff.1 H.box).1
  obtain ⟨Aw, cw, hpw, hRw, hnp⟩ := H.hp.wt
  have hpl : p < W.heap.size := (Array.getElem?_eq_some_iff.1 hpw).1
  refine ⟨⟨H.hp.wt.keep (fun k hk hd => hF.block k hk (fun hO => hd.elim (H.o2 k hO).2.2.1 (H.o2 k hO).2.2.2.1)), below_fr H.hp.bl hF (fun k hk => (H.o2 k hk).1), H.hp.good, H.hp.sz⟩, H.ok, ?_, fun k hk => ⟨(H.o1 k hk).1, Nat.lt_of_lt_of_le (H.o1 k hk).2 hg.size⟩, ?_, ?_, H.b1, H.b2, H.bw⟩
  · rw [List.length_append, List.length_singleton]
    exact Kd.R_mono (Kd.R_bound hR) (fun k hk => ⟨hk.1, hk.2.2.1⟩)
  · rintro k ⟨h1 | h1, h2⟩
    · exact ⟨(H.o2 k h1).1, h2, (H.o2 k h1).2.2⟩
    · exact ⟨Nat.le_trans H.hp.bl.size h1, h2, fun hO => by have := (H.o1 k hO).2; omega, by omega, by omega⟩
  · exact (hF.block b hbl (fun hO => (H.o2 b hO).2.2.2.2 rfl)).trans H.box
/-- the box's row is cut -/
theorem MidI.set {w W : World} {p : Nat} {O1 O2 : Nat → Prop} {l : List S70} {out : List S41} {Ao : Option Addr} {co b : Nat} {ad0 : Addr} {n0 c0 : Nat} {a : Int} (H : MidI w W p O1 O2 l out Ao co b ad0 n0 c0 a) (v : Value) :
    HpS (W.setCell ⟨b, 0, none⟩ v) w p O1 l.toArray ∧ Kd.R (oldK k41 w) 41 (W.setCell ⟨b, 0, none⟩ v) w.heap.size O2 (.slice Ao out.length co) out := by
  have hF : Fr (fun k => k = b) W (W.setCell ⟨b, 0, none⟩ v) := (Fr.of_below (Below.refl _ W) : Fr (fun k => k = b) W W).set (.inl rfl) 0 v
  refine ⟨⟨H.hp.wt.keep (fun k hk hd => hF.block k hk (fun e => hd.elim (fun h => H.b1 (e ▸ h)) (fun h => H.b2 (e ▸ h)))), below_fr H.hp.bl hF (fun k hk => by rw [hk]; exact H.bw), H.hp.good, H.hp.sz⟩, Kd.R_step H.row (fun k hk hlt => hF.block k hlt (H.o2 k hk).2.2.2.2)⟩
theorem LpI.drop {xss : List (List S41)} {w W : World} {p : Nat} {O1 O2 : Nat → Prop} {l : List S70} {out : List S41} {Ao : Option Addr} {co b : Nat} {ad0 : Addr} {n0 c0 : Nat} {a : Int} (H : MidI w W p O1 O2 l out Ao co b ad0 n0 c0 a) (v : Value) (hN : NI xss l out) :
    LpI xss w (W.setCell ⟨b, 0, none⟩ v) p l.toArray out Ao co :=
  ⟨O1, O2, (H.set v).1, H.ok, by simpa using hN, (H.set v).2, fun k hk => ⟨(H.o1 k hk).1, by simpa using (H.o1 k hk).2⟩, fun k hk => ⟨(H.o2 k hk).1, by simpa using (H.o2 k hk).2.1, (H.o2 k hk).2.2.1, (H.o2 k hk).2.2.2.1⟩⟩
theorem LpI.push {xss : List (List S41)} {w W W' W3 : World} {p : Nat} {O1 O2 : Nat → Prop} {l : List S70} {out : List S41} {Ao : Option Addr} {co b : Nat} {ad0 : Addr} {n0 c0 : Nat} {a : Int} {v : Value} {d : Array S70} (H : MidI w W p O1 O2 l out Ao co b ad0 n0 c0 a) (e : W' = W.setCell ⟨b, 0, none⟩ v) (hN : NI xss d.toList out)
    (hF : Fr (fun k => k = p ∨ O1 k) W' W3) (hP : HpS W3 w p (fun k => (O1 k ∨ W'.heap.size ≤ k) ∧ k < W3.heap.size) d) (hk : heapOk d) : LpI xss w W3 p d out Ao co := by
  subst e
  have hz : (W.setCell ⟨b, 0, none⟩ v).heap.size = W.heap.size := by simp
  rw [hz] at hP
  have hs := hF.size
  rw [hz] at hs
  refine ⟨_, O2, hP, hk, hN, Kd.R_step (H.set v).2 (fun k hO hlt => hF.block k hlt (fun h => h.elim (H.o2 k hO).2.2.2.1 (H.o2 k hO).2.2.1)), ?_, ?_⟩
  · rintro k ⟨h1 | h1, h2⟩
    · exact ⟨(H.o1 k h1).1, h2⟩
    · exact ⟨Nat.le_trans H.hp.bl.size h1, h2⟩
  · intro k hk
    have h3 := H.o2 k hk
    exact ⟨h3.1, by omega, fun h => h.1.elim h3.2.2.1 (fun h4 => by omega), h3.2.2.2.1⟩
/-- behind the pop, the two boxes made -/
theorem MidI.start {w w2 w3 : World} {p : Nat} {O1 O2 : Nat → Prop} {l : List S70} {out : List S41} {Ao : Option Addr} {co : Nat} {ad0 : Addr} {n0 c0 : Nat} {a : Int} {u0 u1 : Value} (hP : HpS w3 w p O1 l.toArray) (hk : heapOk l.toArray) (hF : Fr (fun k => k = p ∨ O1 k) w2 w3)
    (hR : Kd.R (oldK k41 w) 41 w2 w.heap.size O2 (.slice Ao out.length co) out) (h1 : ∀ k, O1 k → w.heap.size ≤ k ∧ k < w2.heap.size) (h2 : ∀ k, O2 k → w.heap.size ≤ k ∧ k < w2.heap.size ∧ ¬ O1 k ∧ k ≠ p) :
    MidI w ((w3.alloc (.cells #[.slice (some ad0) n0 c0, .int .i64 a] 70)).alloc (.cells #[u0, u1] 41)) p O1 O2 l out Ao co w3.heap.size ad0 n0 c0 a := by
  have hs := hF.size
  have hw := hP.bl.size
  have hB := below_alloc (below_alloc (Below.refl _ w3) (.cells #[.slice (some ad0) n0 c0, .int .i64 a] 70)) (.cells #[u0, u1] 41)
  have hb := blk_below (heap_alloc_new w3 (.cells #[.slice (some ad0) n0 c0, .int .i64 a] 70)) (below_alloc (Below.refl _ _) (.cells #[u0, u1] 41))
  have hpl : p < w3.heap.size := by
    obtain ⟨Aw, cw, hpw, hRw, hnp⟩ := hP.wt
    exact (Array.getElem?_eq_some_iff.1 hpw).1
  refine ⟨hP.below hB, hk, Kd.R_below (Kd.R_step hR (fun k hO hlt => hF.block k hlt (fun h => h.elim (h2 k hO).2.2.2 (h2 k hO).2.2.1))) hB, fun k hk => ⟨(h1 k hk).1, by have := (h1 k hk).2; have := hB.size; omega⟩, fun k hk => ⟨(h2 k hk).1, by have := (h2 k hk).2.1; have := hB.size; omega, (h2 k hk).2.2.1, (h2 k hk).2.2.2, by have := (h2 k hk).2.1; omega⟩, hb, fun h => by have := (h1 _ h).2; omega, by omega, hw⟩
theorem NI.last {xss : List (List S41)} {d : List S70} {out : List S41} (H : NI xss d out) (hok : ∀ l ∈ xss, OkL l) {o : S41} (ho : o ∈ out) : o.f1.length ≠ 0 := by
  obtain ⟨l1, a, l2, he, hf, _⟩ := List.findSome?_eq_some_iff.1 (H.new o ho)
  exact (hok a (by rw [he]; simp)).1 o (findV_in hf)
theorem step_nil {xss : List (List S41)} {d : List S70} {out : List S41} {s : S41} (e : NI xss d (if ∃ o, out.getLast? = some o ∧ eqK (keyT o) (keyT s) = true then out else out ++ [s])) (ho : out.length = 0) : NI xss d (out ++ [s]) := by
  have : out = [] := List.length_eq_zero_iff.1 ho
  subst this
  simpa using e
theorem step_eq {xss : List (List S41)} {d : List S70} {out : List S41} {s : S41} (e : NI xss d (if ∃ o, out.getLast? = some o ∧ eqK (keyT o) (keyT s) = true then out else out ++ [s])) {i : Nat} (hi : i < out.length) (hl : i + 1 = out.length) (hq : eqK (keyT out[i]) (keyT s) = true) : NI xss d out := by
  have hg : out.getLast? = some out[i] := by
    rw [List.getLast?_eq_getElem?, show out.length - 1 = i by omega, List.getElem?_eq_getElem hi]
  rw [if_pos ⟨_, hg, hq⟩] at e
  exact e
theorem step_ne {xss : List (List S41)} {d : List S70} {out : List S41} {s : S41} (e : NI xss d (if ∃ o, out.getLast? = some o ∧ eqK (keyT o) (keyT s) = true then out else out ++ [s])) {i : Nat} (hi : i < out.length) (hl : i + 1 = out.length) (hq : ¬ eqK (keyT out[i]) (keyT s) = true) : NI xss d (out ++ [s]) := by
  have hg : out.getLast? = some out[i] := by
    rw [List.getLast?_eq_getElem?, show out.length - 1 = i by omega, List.getElem?_eq_getElem hi]
  rw [if_neg (fun hx => by
    obtain ⟨o, h1, h2⟩ := hx
    rw [hg] at h1
    cases h1
    exact hq h2)] at e
  exact e
theorem tail_K {w : World} {ad0 : Addr} {c0 : Nat} {s : S41} {t : List S41} {a : Int} (hC : Kd.C k41 w (some ad0) (s :: t).length (s :: t)) (hc : t.length + 1 ≤ c0) (ht : t ≠ []) : k70.K w (⟨t, a⟩ : S70) [.slice (some ⟨ad0.block, ad0.off + 2, none⟩) t.length (c0 - 1), .int .i64 a] := by
  have h := Kd.C_drop (c := c0) (m := 1) hC (by simp) hc
  have htl : t.length ≠ 0 := fun e => ht (List.length_eq_zero_iff.1 e)
  rw [if_neg (by omega)] at h
  have e : Option.map (fun x : Addr => x.add (1 * k41.sz)) (some ad0) = some ⟨ad0.block, ad0.off + 2, none⟩ := by
    show some (ad0.add 2) = _
    simp [Addr.add]
  rw [e] at h
  exact k70_mk w (⟨t, a⟩ : S70) (show t.length ≤ c0 - 1 by omega) (by simpa using h)
theorem leftN_perm {d : Array S70} {l : List S70} (h : d.toList.Perm l) : leftN d = (l.map (·.f0.length)).sum := (h.map (fun x : S70 => x.f0.length)).sum_nat
theorem perm_sz {d : Array S70} {l : List S70} {x : S70} (h : (l ++ [x]).Perm d.toList) (hs : d.size ≤ 1099511627776) : l.toArray.size + 1 ≤ 1099511627776 := by
  have h1 := h.length_eq
  simp at h1
  simp
  omega
theorem wrap_small {i : Nat} (h : i ≤ 1099511627776) : wrap64 (i : Int) = (i : Int) := by unfold wrap64; omega
theorem LpI.done {xss : List (List S41)} {w wr : World} {p : Nat} {d : Array S70} {out : List S41} {Ao : Option Addr} {co : Nat} (h : LpI xss w wr p d out Ao co) (hd : d.size = 0) (hok : ∀ l ∈ xss, OkL l) : NewPost xss w (.returned (.tuple #[.slice Ao out.length co, .int .i64 0])) wr := by
  obtain ⟨O1, O2, hH, hk, hN, hR, h1, h2⟩ := h
  have hd2 : d.toList = [] := by simpa using hd
  rw [hd2] at hN
  have e := hN.done hok
  obtain ⟨A, c, he, hl, hC⟩ := Kd.R_reads hR
  cases he
  refine ⟨hH.bl, fun _ => ⟨Ao, co, by rw [← e], by rw [← e]; exact hl, by rw [← e]; exact oldK_C hC hH.bl⟩, fun h => absurd hok h⟩
theorem Newest_T (A : Option Addr) (c : Nat) (xss : List (List S41)) (w : World) (hC : Kd.C (Kd.slice 41 k41) w A xss.length xss) (hc : xss.length ≤ c) (hn : xss.length ≤ 1024) (hs : sumLen xss ≤ 1099511627776) :
    Calls Try.prog 15 #[.slice A xss.length c] w fun e w' => NewPost xss w e w' := by
  have HC := Aside0.mk hC
  clear hC
  go_enter Try.func15, Try.ntmps15
  go_wp2
  have hbl : Below w.heap.size w ((w.alloc (Obj.cells #[] 70)).alloc (Obj.cells #[Value.slice (some { block := w.heap.size, off := 0 }) 0 0] 68)) := below_alloc (below_alloc (Below.refl _ _) _) _
  have HW0 : Aside0 (∃ O : Nat → Prop, (∀ k, O k → w.heap.size ≤ k ∧ k < ((w.alloc (Obj.cells #[] 70)).alloc (Obj.cells #[Value.slice (some { block := w.heap.size, off := 0 }) 0 0] 68)).heap.size) ∧ WaitS ((w.alloc (Obj.cells #[] 70)).alloc (Obj.cells #[Value.slice (some { block := w.heap.size, off := 0 }) 0 0] 68)) w (w.heap.size + 1) O (waitL xss 0)) := ⟨wait_start w⟩
  have HB0 := Aside0.mk hbl
  clear hbl
  obtain ⟨p, hp⟩ : ∃ p, p = w.heap.size + 1 := ⟨_, rfl⟩
  have HPP := Aside0.mk (show w.heap.size ≤ p by omega)
  rw [← hp] at HW0 ⊢
  generalize ((w.alloc (Obj.cells #[] 70)).alloc (Obj.cells #[Value.slice (some { block := w.heap.size, off := 0 }) 0 0] 68)) = W0 at *
  clear hp
  go_loopg [15] xss.length (fun kx a wr => ∃ i : Nat, a = .int .i64 i ∧ i ≤ xss.length ∧ xss.length - i ≤ kx ∧ Aside0 (Below w.heap.size w wr) ∧ Aside0 (∃ O : Nat → Prop, (∀ k, O k → w.heap.size ≤ k ∧ k < wr.heap.size) ∧ WaitS wr w p O (waitL xss i)) ∧ Aside0 (∀ (j : Nat) (h : j < xss.length), j < i → OkL xss[j]))
  case atStart => exact ⟨0, rfl, Nat.zero_le _, by omega, HB0, HW0, ⟨fun j _ h => absurd h (Nat.not_lt_zero _)⟩⟩
  case round =>
    obtain ⟨i, rfl, hi, hkx, HB, HW, HA⟩ := hrel
    clear HB0 HW0
    obtain ⟨O, hO, hWS⟩ := HW.out
    obtain ⟨Aw, cw, hpw, hRw, hnO⟩ := hWS
    have HO := Aside0.mk hO
    have HNO := Aside0.mk hnO
    clear HW hO hnO
    by_cases hlt : i < xss.length
    · have hz0 : (0 : Int) ≤ (i : Int) := by omega
      have hz1 : (i : Int) < (xss.length : Int) := by omega
      obtain ⟨ad, A0, c0, eA, x0, hc0, hCl⟩ := C_list HC.out i hlt
      subst eA
      have hx0 := pw_cell_below HB.out x0
      have HWS := Aside0.mk (waitL_succ hlt)
      have HA2 := Aside0.mk (fun (hne : OkL xss[i]) (j : Nat) (h : j < xss.length) (hj : j < i + 1) => show OkL xss[j] from by
        by_cases e : j = i
        · subst e; exact hne
        · exact HA.out j h (by omega))
      have HM := Aside0.mk (List.getElem_mem hlt)
      have hll : xss[i].length ≤ 4611686018427387904 := Nat.le_trans (len_flat (List.getElem_mem hlt)) (by omega)
      generalize xss[i] = l at *
      have hso := Sorted_T A0 c0 l wr (Kd.C_below hCl HB.out) hc0 hll
      have HCL := Aside0.mk hCl
      clear x0 hCl HA
      go_wp2_with fail
      refine hso.mono ?_
      rintro e w1 ⟨hb1, r, rfl, hr⟩
      have HB1 := Aside0.mk hb1
      have HPW := Aside0.mk (blk_below hpw hb1)
      have HRW := Aside0.mk (Kd.R_below hRw hb1)
      have HR := Aside0.mk hr
      clear hso hb1 hr hpw hRw
      cases r with
      | false =>
        have HBD := Aside0.mk (show ¬ ∀ l ∈ xss, OkL l from fun h => absurd (HR.out.2 (h l HM.out)) (by simp))
        go_wp2
        go_ret2
        exact ⟨below_then HB.out HB.out.size HB1.out, fun h => absurd h HBD.out, fun _ => rfl⟩
      | true =>
        have HOK := Aside0.mk (HR.out.1 rfl)
        have HB2 := Aside0.mk (below_then HB.out HB.out.size HB1.out)
        have HA3 := Aside0.mk (HA2.out HOK.out)
        by_cases hl0 : l.length = 0
        · go_wp2
          go_roundg (xss.length - (i + 1))
          case measure => omega
          case rel => exact ⟨i + 1, by go_num, by omega, by omega, HB2, ⟨O, fun k hk => ⟨(HO.out k hk).1, Nat.lt_of_lt_of_le (HO.out k hk).2 HB1.out.size⟩, by rw [HWS.out, if_pos hl0]; exact ⟨Aw, cw, HPW.out, HRW.out, HNO.out⟩⟩, HA3⟩
        · have hl1 : (0 : Int) < (l.length : Int) := by omega
          have HC0 := Aside0.mk hc0
          have HPL : Aside0 (p < w1.heap.size ∧ some p ≠ (Value.slice Aw (waitL xss i).length cw).ownBlock) := ⟨(Array.getElem?_eq_some_iff.1 HPW.out).1, fun e => HNO.out (HRW.out.1 p e.symm)⟩
          have q0 := (blk_cell HPW.out 0).trans rfl
          have q1 := blk_frozen HPW.out 0
          go_wp2_with ((with_reducible refine gate_builtin (b := .append) (xs := #[.tmp 29, .tmp 33]) rfl ?_); at_builtin; refine show_goal ?_)
          refine Aside0.mk ?_
          refine Kd.R_append (oldK k70 w) (w0 := w1) w.heap.size ?_ (.tmp 29) (.tmp 33) 68 70 (.agg #[(.slice none 0 0), (.int .i64 0)]) 32 ?_ ?_ ?_ ?_ ?_ ?_ (.slice Aw (waitL xss i).length cw) (waitL xss i) (⟨l, (i : Int)⟩ : S70) [.slice A0 l.length c0, .int .i64 i] (fun k => O k ∨ w1.heap.size ≤ k) (fun _ => False) ?_ ?_ ?_ ?_ ?_ ?_ ?_ ?_ ?_ ?_
          · rfl
          · rfl
          · exact Try.underlying68
          · exact info70
          · rfl
          · exact Nat.zero_lt_succ 1
          · exact Nat.zero_lt_succ 31
          · rfl
          · rfl
          · exact k70_mk _ (⟨l, (i : Int)⟩ : S70) HC0.out HCL.out
          · exact fun _ h => h.elim
          · exact fun _ h => .inr h
          · exact Kd.R_mono HRW.out (fun _ h => .inl h)
          · exact Below.refl _ _
          · exact HB2.out.size
          · have := waitL_len xss i; omega
          intro v1 w2 hR1 hb1 hg1 hat1
          obtain ⟨A1_, c1_, hv1⟩ := Kd.R_slice hR1
          rw [List.length_append, List.length_singleton] at hv1
          subst hv1
          have hp2 := (hg1.block p HPL.out.1 (fun e => HPL.out.2 e)).trans HPW.out
          have s0 := (blk_cell hp2 0).trans rfl
          have s1 := blk_frozen hp2 0
          have HR2 := Aside0.mk hR1
          have HG2 := Aside0.mk hg1
          have HP2 := Aside0.mk hp2
          clear hR1 hb1 hg1 hat1 hp2
          go_wp2
          go_roundg (xss.length - (i + 1))
          case measure => omega
          case rel => 
            have hfin := append_fin HB2.out (fun k hk => (HO.out k hk).1) HPP.out HNO.out HPW.out HRW.out HR2.out HG2.out
            refine ⟨i + 1, by go_num, by omega, by omega, ⟨hfin.1⟩, ⟨?_⟩, HA3⟩
            rw [HWS.out, if_neg hl0]
            exact hfin.2
    · have hie : i = xss.length := by omega
      subst hie
      have HOK := Aside0.mk (show ∀ l ∈ xss, OkL l from fun l hl => by
        obtain ⟨j, hj, rfl⟩ := List.getElem_of_mem hl
        exact HA.out j hj hj)
      have HH : Aside0 (HpS wr w p O (waitL xss xss.length).toArray) := ⟨⟨⟨Aw, cw, hpw, hRw, HNO.out⟩, HB.out, fun x hx => NI.good NI.start HOK.out (by simpa using hx), by have := waitL_len xss xss.length; simp; omega⟩⟩
      have hin := Init_T p O (waitL xss xss.length).toArray wr w HH.out (fun k hk => (HO.out k hk).1)
      clear HA hpw hRw
      go_wp2_with fail
      refine hin.mono ?_
      rintro e w1 ⟨rfl, hF1, hP1⟩
      have HLP := Aside0.mk (LpI.start hP1 (fun k hk => ⟨(HO.out k hk).1, Nat.lt_of_lt_of_le (HO.out k hk).2 hF1.size⟩))
      generalize hd0 : Go.Sort.heapBuild ltH (waitL xss xss.length).toArray.size 0 ((waitL xss xss.length).toArray.size / 2) (waitL xss xss.length).toArray = d0 at HLP
      clear hin hF1 hP1 hd0 HH
      go_wp2
      go_loopg [7] (leftN d0) (fun kx a wr => ∃ (d : Array S70) (out : List S41) (Ao : Option Addr) (co : Nat), a = .slice Ao out.length co ∧ Aside0 (LpI xss w wr p d out Ao co) ∧ leftN d ≤ kx)
      case atStart => exact ⟨d0, [], none, 0, rfl, HLP, Nat.le_refl _⟩
      case round =>
        obtain ⟨d, out, Ao, co, rfl, HL, hkx⟩ := hrel
        clear HLP HO HNO
        obtain ⟨O1, O2, hH, hk, hN, hR, h1, h2⟩ := HL.out
        obtain ⟨Aw, cw, hcw⟩ := hH.len
        have HH := Aside0.mk hH
        have HNI := Aside0.mk hN
        have HR := Aside0.mk hR
        have HO1 := Aside0.mk h1
        have HO2 := Aside0.mk h2
        by_cases hd : d.size = 0
        · have HD := Aside0.mk (HL.out.done hd HOK.out)
          have hdi : (d.size : Int) = 0 := by omega
          rw [hd] at hcw
          clear hH hk hN hR h1 h2 HL hd hdi
          go_wp2_with fail
          refine (LenM_T Aw 0 cw wr).mono ?_
          rintro e w2 ⟨rfl, rfl⟩
          clear hcw
          go_wp2
          go_ret2
          exact HD.out
        · obtain ⟨s, t, a, hx⟩ := hN.head (by omega)
          have hpo := HPop_T p O1 d ⟨s :: t, a⟩ hx wr w hH (fun k hk => (h1 k hk).1) HPP.out hk (by omega)
          have hmin := fun y hy => head_min hk (y := y) hy
          rw [hx] at hmin
          have HMIN := Aside0.mk hmin
          have HKX := Aside0.mk hkx
          have hdp : (0 : Int) < (d.size : Int) := by omega
          clear hH hk hN hR h1 h2 HL hmin hx hkx
          go_wp2_with fail
          refine (LenM_T Aw d.size cw wr).mono ?_
          rintro e w2 ⟨rfl, rfl⟩
          clear hcw
          go_wp2_with fail
          refine hpo.mono ?_
          rintro e w3 ⟨⟨A0, c0, rfl, hK⟩, hF3, l, hP3, hok3, hpm⟩
          obtain ⟨A0', c0', e0, hlc, hC0⟩ := k70_open hK
          cases e0
          obtain ⟨ad0, Ar, cr, eA, x0, x1, hcr, hCr⟩ := at_T41 hC0 (0 : Int) (by omega) (by simp)
          subst eA
          have e1 : rd_T41 (s :: t) 0 = s := by simp [rd_T41]
          simp only [e1, Int.toNat_zero, Nat.zero_mul] at x0 x1 hcr hCr
          simp only [add0_at] at x0 x1
          have hB3 := hP3.bl
          have y0 := pw_cell_below hB3 x0
          have y1 := pw_cell_below hB3 x1
          have hta := tassert70 (.agg #[Value.slice (some ad0) (t.length + 1) c0, Value.int IntKind.i64 a]) w3
          have hk0 : s.f1.length ≠ 0 := by
            obtain ⟨_, i, hi, _, hs⟩ := HNI.out.src _ (hpm.mem_iff.1 (List.mem_append_right _ (List.mem_singleton.2 rfl)))
            exact (HOK.out _ (List.getElem_mem hi)).1 s (hs.sublist.mem List.mem_cons_self)
          obtain ⟨ak, eK, z0, z1, z2⟩ := at_T37 hCr (0 : Int) (by omega) (by omega)
          subst eK
          simp only [Int.toNat_zero, Nat.zero_mul, add0_at] at z0 z1 z2
          have hzk : (0 : Int) < (s.f1.length : Int) := by omega
          have hlt0 : (0 : Int) < ((t.length : Int) + 1) := by omega
          have hlen : (s :: t).length = t.length + 1 := rfl
          have HK := Aside0.mk hK
          have HF3 := Aside0.mk hF3
          have HP3 := Aside0.mk hP3
          have HOK3 := Aside0.mk hok3
          have HPM := Aside0.mk hpm
          have HLC := Aside0.mk hlc
          have HC0 := Aside0.mk hC0
          have Z0 := Aside0.mk (pw_cell_below hB3 z0)
          have Z1 := Aside0.mk (pw_cell_below hB3 z1)
          have Z2 := Aside0.mk (pw_cell_below hB3 z2)
          have HCR := Aside0.mk hcr
          have HCRR := Aside0.mk hCr
          clear hpo hK hF3 hP3 hok3 hpm hlc hC0 x0 x1 z0 z1 z2 hB3 hcr hCr e1
          have y0' := cell_alloc1 (o := .cells #[.slice (some ad0) (t.length + 1) c0, .int .i64 a] 70) y0
          have y1' := cell_alloc1 (o := .cells #[.slice (some ad0) (t.length + 1) c0, .int .i64 a] 70) y1
          have hbx := heap_alloc_new w3 (.cells #[.slice (some ad0) (t.length + 1) c0, .int .i64 a] 70)
          have b0 := (blk_cell hbx 0).trans rfl
          have b1 := (blk_cell hbx 1).trans rfl
          have HB4 := Aside0.mk (below_alloc (Below.refl _ w3) (.cells #[.slice (some ad0) (t.length + 1) c0, .int .i64 a] 70))
          have HBX := Aside0.mk hbx
          have hz4 : (w3.alloc (.cells #[.slice (some ad0) (t.length + 1) c0, .int .i64 a] 70)).heap.size = w3.heap.size + 1 := by simp
          clear hbx
          go_wp2
          have HMI := Aside0.mk (MidI.start (ad0 := ad0) (n0 := t.length + 1) (c0 := c0) (a := a) (u0 := .bool s.f0) (u1 := .slice (some ak) s.f1.length cr) HP3.out HOK3.out HF3.out HR.out HO1.out HO2.out)
          have HSTEP := Aside0.mk ((HNI.out.perm HPM.out).step HOK.out (fun y hy => HMIN.out y (HPM.out.mem_iff.1 hy)))
          have HLT := Aside0.mk (show leftN d = (l.map (·.f0.length)).sum + (t.length + 1) from by
            have e := (HPM.out.map (fun x : S70 => x.f0.length)).sum_nat
            rw [leftN, ← e, List.map_append, List.sum_append]; simp)
          have HKH := Aside0.mk (show k41.K w s [.bool s.f0, .slice (some ak) s.f1.length cr] from k41_mk w s HCR.out HCRR.out)
          have hbd := heap_alloc_new (w3.alloc (.cells #[.slice (some ad0) (t.length + 1) c0, .int .i64 a] 70)) (.cells #[.bool s.f0, .slice (some ak) s.f1.length cr] 41)
          rw [hz4] at hbd
          have d0_ := (blk_cell hbd 0).trans rfl
          have d1_ := (blk_cell hbd 1).trans rfl
          have ZZ := Aside0.mk (And.intro (cell_alloc1 (o := .cells #[.bool s.f0, .slice (some ak) s.f1.length cr] 41) (cell_alloc1 (o := .cells #[.slice (some ad0) (t.length + 1) c0, .int .i64 a] 70) Z0.out)) (And.intro (cell_alloc1 (o := .cells #[.bool s.f0, .slice (some ak) s.f1.length cr] 41) (cell_alloc1 (o := .cells #[.slice (some ad0) (t.length + 1) c0, .int .i64 a] 70) Z1.out)) (cell_alloc1 (o := .cells #[.bool s.f0, .slice (some ak) s.f1.length cr] 41) (cell_alloc1 (o := .cells #[.slice (some ad0) (t.length + 1) c0, .int .i64 a] 70) Z2.out))))
          have HB5 := Aside0.mk (below_then HB4.out (HB4.out.size) (below_alloc (Below.refl _ _) (.cells #[.bool s.f0, .slice (some ak) s.f1.length cr] 41)))
          clear hbd y0 y1 y0' y1' b0 b1 hta HB4 HBX hz4
          generalize hW5 : (w3.alloc (.cells #[.slice (some ad0) (t.length + 1) c0, .int .i64 a] 70)).alloc (.cells #[.bool s.f0, .slice (some ak) s.f1.length cr] 41) = W5 at *
          clear hW5
          have HD0 := Aside0.mk d0_
          have HD1 := Aside0.mk d1_
          generalize w3.heap.size + 1 = bd at *
          generalize w3.heap.size = bx at *
          have htc : (t.length : Int) + 1 ≤ (c0 : Int) := by have : t.length + 1 ≤ c0 := HLC.out; omega
          by_cases ho : out.length = 0
          · have hoi : (out.length : Int) = 0 := by omega
            clear d0_ d1_
            go_wp2
            refine wp_region_quiet_some mixed_T (by kernel_rfl) ?_
            repeat (go_big_quiet_step (fail))
            refine wpQuiet_nil ?_
            intro w6 hw'
            obtain ⟨p_, hp_⟩ := hw'
            have hb6 : Below W5.heap.size W5 w6 := by rw [hp_]; exact p_.h
            have d0_ := pw_cell_below hb6 HD0.out
            have d1_ := pw_cell_below hb6 HD1.out
            have HM6 := Aside0.mk (HMI.out.below hb6)
            have HN : Aside0 (NI xss (if t = [] then l else l ++ [⟨t, a⟩]) (out ++ [s])) := ⟨step_nil HSTEP.out ho⟩
            clear hp_ p_ hb6
            have hl32 : (out.length + 1) * 32 ≤ 140737488355328 := by have := HNI.out.cnt; omega
            have HL32 := Aside0.mk hl32
            clear hl32
            go_wp2_with ((with_reducible refine gate_builtin (b := .append) (xs := #[.tmp 73, .tmp 75]) rfl ?_); at_builtin; refine show_goal ?_)
            refine Aside0.mk ?_
            refine Kd.R_append (oldK k41 w) (w0 := w6) w.heap.size ?_ (.tmp 73) (.tmp 75) 25 41 (.agg #[(.bool false), (.slice none 0 0)]) 32 ?_ ?_ ?_ ?_ ?_ ?_ (.slice Ao out.length co) out s [.bool s.f0, .slice (some ak) s.f1.length cr] (fun k => O2 k ∨ w6.heap.size ≤ k) (fun _ => False) ?_ ?_ ?_ ?_ ?_ ?_ ?_ ?_ ?_ ?_
            · rfl
            · rfl
            · exact Try.underlying25
            · exact info41
            · rfl
            · exact Nat.zero_lt_succ 1
            · exact Nat.zero_lt_succ 31
            · rfl
            · rfl
            · exact HKH.out
            · exact fun _ h => h.elim
            · exact fun _ h => .inr h
            · exact Kd.R_mono HM6.out.row (fun _ h => .inl h)
            · exact Below.refl _ _
            · exact HM6.out.hp.bl.size
            · exact HL32.out
            intro v1 w7 hR1 hb1 hg1 hat1
            obtain ⟨A1_, c1_, hv1⟩ := Kd.R_slice hR1
            rw [List.length_append, List.length_singleton] at hv1
            subst hv1
            have HM := Aside0.mk (HM6.out.app hg1 hR1)
            clear hR1 hb1 hg1 hat1 d0_ d1_
            have bx0 := (blk_cell HM.out.box 0).trans rfl
            have bx1 := (blk_cell HM.out.box 1).trans rfl
            have fbx := blk_frozen HM.out.box 0
            by_cases ht : t.length = 0
            · have ht0 : t = [] := List.length_eq_zero_iff.1 ht
              have HN2 := HN.out
              rw [if_pos ht0] at HN2
              have HN3 := Aside0.mk HN2
              have hti : (t.length : Int) = 0 := by omega
              clear HN2
              go_wp2
              all_goals
                go_roundg (leftN d - 1)
                case measure => have := HLT.out; have := HKX.out; omega
                case rel => exact ⟨_, _, _, _, by rw [Value.slice.injEq]; exact ⟨rfl, by simp [ho], rfl⟩, ⟨LpI.drop HM.out _ HN3.out⟩, by have := HLT.out; show leftN l.toArray ≤ _; have e : leftN l.toArray = (l.map (·.f0.length)).sum := rfl; rw [e]; omega⟩
            · have ht0 : t ≠ [] := fun e => ht (by rw [e]; rfl)
              have HN2 := HN.out
              rw [if_neg ht0] at HN2
              have HN3 := Aside0.mk HN2
              have hti : (0 : Int) < (t.length : Int) := by omega
              have hpu := HPush_T p O1 l.toArray ⟨t, a⟩ (some ⟨ad0.block, ad0.off + 2, none⟩) (c0 - 1) _ w (HM.out.set (.slice (some ⟨ad0.block, ad0.off + 2, none⟩) t.length (c0 - 1))).1 (fun k hk => (HO1.out k hk).1) HPP.out HOK3.out (HN3.out.good HOK.out (List.mem_append_right _ (List.mem_singleton.2 rfl))) (tail_K HC0.out HLC.out ht0) (perm_sz HPM.out HH.out.sz)
              clear HN2
              go_wp2_with fail
              refine hpu.mono ?_
              rintro e w8 ⟨rfl, hF8, d8, hP8, hk8, hpm8⟩
              have HL8 := Aside0.mk (LpI.push HM.out rfl (HN3.out.perm hpm8) hF8 hP8 hk8)
              have HS8 := Aside0.mk (leftN_perm hpm8)
              clear hpu hF8 hP8 hk8 hpm8
              go_wp2
              go_roundg (leftN d - 1)
              case measure => have := HLT.out; have := HKX.out; omega
              case rel => exact ⟨d8, _, _, _, by rw [Value.slice.injEq]; exact ⟨rfl, by simp [ho], rfl⟩, HL8, by have h1 := HLT.out; have h2 := HS8.out; rw [List.map_append, List.sum_append] at h2; simp at h2; omega⟩
          · obtain ⟨i, hi⟩ : ∃ i, out.length = i + 1 := ⟨out.length - 1, by omega⟩
            have hil : i < out.length := by omega
            have hsub : (out.length : Int) - 1 = (i : Int) := by omega
            have hne0 : ¬ (out.length : Int) = 0 := by omega
            have hib : i ≤ 1099511627776 := by have := HNI.out.cnt; omega
            have hbq : ((out.length : Int) == 0) = false := beq_eq_false_iff_ne.2 hne0
            have hz1 : (0 : Int) ≤ (i : Int) := by omega
            have hz2 : (i : Int) < (out.length : Int) := by omega
            obtain ⟨Ao_, co_, e_, hoc, hRC⟩ := Kd.R_reads HMI.out.row
            cases e_
            obtain ⟨ao, Al, cl, eA, x0, x1, hcl, hCl⟩ := at_T41 (oldK_C hRC HMI.out.hp.bl) (i : Int) hz1 hz2
            subst eA
            rw [rdD_at out i hil] at x0 x1 hcl hCl
            simp only [Int.toNat_natCast] at x0 x1
            have hol := (HNI.out.last HOK.out (List.getElem_mem hil))
            have HEQ := Aside0.mk (fun hq => step_eq HSTEP.out hil hi.symm hq)
            have HNE := Aside0.mk (fun hq => step_ne HSTEP.out hil hi.symm hq)
            generalize out[i] = o at *
            have HI := Aside0.mk hi
            clear hi
            have hp1 : (0 : Int) < (o.f1.length : Int) := by omega
            obtain ⟨bk, eK, k0, k1, k2⟩ := at_T37 hCl (0 : Int) (by omega) hp1
            subst eK
            have P1 : ∀ s_ : SomeW W5, s_.W.cell? ⟨(ao.add (i * 2)).block, (ao.add (i * 2)).off + 1, none⟩ = some (.slice (some bk) o.f1.length cl) := fun s_ => cell_some x1 s_
            have Q1 : ∀ s_ : SomeW W5, s_.W.cell? ⟨bd, 1, none⟩ = some (.slice (some ak) s.f1.length cr) := fun s_ => cell_some d1_ s_
            have K0 : ∀ s_ : SomeW W5, s_.W.cell? bk = some (.bool (keyT o).f0) := fun s_ => cell_some k0 s_
            have K1 : ∀ s_ : SomeW W5, s_.W.cell? ⟨bk.block, bk.off + 1, none⟩ = some (.int .i64 (keyT o).f1) := fun s_ => cell_some k1 s_
            have K2 : ∀ s_ : SomeW W5, s_.W.cell? ⟨bk.block, bk.off + 2, none⟩ = some (.string (keyT o).f2) := fun s_ => cell_some k2 s_
            have M0 : ∀ s_ : SomeW W5, s_.W.cell? ak = some (.bool (keyT s).f0) := fun s_ => cell_some (ZZ.out.1) s_
            have M1 : ∀ s_ : SomeW W5, s_.W.cell? ⟨ak.block, ak.off + 1, none⟩ = some (.int .i64 (keyT s).f1) := fun s_ => cell_some (ZZ.out.2.1) s_
            have M2 : ∀ s_ : SomeW W5, s_.W.cell? ⟨ak.block, ak.off + 2, none⟩ = some (.string (keyT s).f2) := fun s_ => cell_some (ZZ.out.2.2) s_
            have hcmp := fun V => cmp_T (keyT o) (keyT s) V
            have hcq := cmp_eqK (keyT o) (keyT s)
            generalize Thy.cmpV (keyT o).f0 (keyT o).f1 (keyT o).f2 (keyT s).f0 (keyT s).f1 (keyT s).f2 = cv at *
            have HCQ := Aside0.mk hcq
            clear x0 x1 hcl hCl hol k0 k1 k2 hcq hRC hoc d0_ d1_
            have hwr := wrap_small hib
            clear hib
            go_wp2
            refine wp_region_quiet_some mixed_T (by kernel_rfl) ?_
            repeat (go_big_quiet_step (first | (go_at_call 41; refine Calls.below_some (hcmp _))))
            refine wpQuiet_nil ?_
            intro w6 hw'
            obtain ⟨p_, hp_⟩ := hw'
            have hb6 : Below W5.heap.size W5 w6 := by rw [hp_]; exact p_.h
            have d0_ := pw_cell_below hb6 HD0.out
            have d1_ := pw_cell_below hb6 HD1.out
            have HM6 := Aside0.mk (HMI.out.below hb6)
            clear hp_ p_ hb6 P1 Q1 K0 K1 K2 M0 M1 M2 hcmp hwr
            by_cases hcv : cv = 0
            · have hcb : (cv != 0) = false := by simp [hcv]
              have HM := HM6
              have HN : Aside0 (NI xss (if t = [] then l else l ++ [⟨t, a⟩]) out) := ⟨HEQ.out (HCQ.out.1 hcv)⟩
              clear HEQ HNE d0_ d1_
              have bx0 := (blk_cell HM.out.box 0).trans rfl
              have bx1 := (blk_cell HM.out.box 1).trans rfl
              have fbx := blk_frozen HM.out.box 0
              by_cases ht : t.length = 0
              · have ht0 : t = [] := List.length_eq_zero_iff.1 ht
                have HN2 := HN.out
                rw [if_pos ht0] at HN2
                have HN3 := Aside0.mk HN2
                have hti : (t.length : Int) = 0 := by omega
                clear HN2
                go_wp2
                all_goals
                  go_roundg (leftN d - 1)
                  case measure => have := HLT.out; have := HKX.out; omega
                  case rel => exact ⟨_, _, _, _, by rw [Value.slice.injEq]; exact ⟨rfl, by simp [List.length_append], rfl⟩, ⟨LpI.drop HM.out _ HN3.out⟩, by have := HLT.out; show leftN l.toArray ≤ _; have e : leftN l.toArray = (l.map (·.f0.length)).sum := rfl; rw [e]; omega⟩
              · have ht0 : t ≠ [] := fun e => ht (by rw [e]; rfl)
                have HN2 := HN.out
                rw [if_neg ht0] at HN2
                have HN3 := Aside0.mk HN2
                have hti : (0 : Int) < (t.length : Int) := by omega
                have hpu := HPush_T p O1 l.toArray ⟨t, a⟩ (some ⟨ad0.block, ad0.off + 2, none⟩) (c0 - 1) _ w (HM.out.set (.slice (some ⟨ad0.block, ad0.off + 2, none⟩) t.length (c0 - 1))).1 (fun k hk => (HO1.out k hk).1) HPP.out HOK3.out (HN3.out.good HOK.out (List.mem_append_right _ (List.mem_singleton.2 rfl))) (tail_K HC0.out HLC.out ht0) (perm_sz HPM.out HH.out.sz)
                clear HN2
                go_wp2_with fail
                refine hpu.mono ?_
                rintro e w8 ⟨rfl, hF8, d8, hP8, hk8, hpm8⟩
                have HL8 := Aside0.mk (LpI.push HM.out rfl (HN3.out.perm hpm8) hF8 hP8 hk8)
                have HS8 := Aside0.mk (leftN_perm hpm8)
                clear hpu hF8 hP8 hk8 hpm8
                go_wp2
                go_roundg (leftN d - 1)
                case measure => have := HLT.out; have := HKX.out; omega
                case rel => exact ⟨d8, _, _, _, by rw [Value.slice.injEq]; exact ⟨rfl, by simp [List.length_append], rfl⟩, HL8, by have h1 := HLT.out; have h2 := HS8.out; rw [List.map_append, List.sum_append] at h2; simp at h2; omega⟩
            · have hcb : (cv != 0) = true := by simp [hcv]
              have HN : Aside0 (NI xss (if t = [] then l else l ++ [⟨t, a⟩]) (out ++ [s])) := ⟨HNE.out (fun hq => hcv (HCQ.out.2 hq))⟩
              clear HEQ HNE
              have hl32 : (out.length + 1) * 32 ≤ 140737488355328 := by have := HNI.out.cnt; omega
              have HL32 := Aside0.mk hl32
              clear hl32
              go_wp2_with ((with_reducible refine gate_builtin (b := .append) (xs := #[.tmp 73, .tmp 75]) rfl ?_); at_builtin; refine show_goal ?_)
              refine Aside0.mk ?_
              refine Kd.R_append (oldK k41 w) (w0 := w6) w.heap.size ?_ (.tmp 73) (.tmp 75) 25 41 (.agg #[(.bool false), (.slice none 0 0)]) 32 ?_ ?_ ?_ ?_ ?_ ?_ (.slice (some ao) out.length co) out s [.bool s.f0, .slice (some ak) s.f1.length cr] (fun k => O2 k ∨ w6.heap.size ≤ k) (fun _ => False) ?_ ?_ ?_ ?_ ?_ ?_ ?_ ?_ ?_ ?_
              · rfl
              · rfl
              · exact Try.underlying25
              · exact info41
              · rfl
              · exact Nat.zero_lt_succ 1
              · exact Nat.zero_lt_succ 31
              · rfl
              · rfl
              · exact HKH.out
              · exact fun _ h => h.elim
              · exact fun _ h => .inr h
              · exact Kd.R_mono HM6.out.row (fun _ h => .inl h)
              · exact Below.refl _ _
              · exact HM6.out.hp.bl.size
              · exact HL32.out
              intro v1 w7 hR1 hb1 hg1 hat1
              obtain ⟨A1_, c1_, hv1⟩ := Kd.R_slice hR1
              rw [List.length_append, List.length_singleton] at hv1
              subst hv1
              have HM := Aside0.mk (HM6.out.app hg1 hR1)
              clear hR1 hb1 hg1 hat1 d0_ d1_
              have bx0 := (blk_cell HM.out.box 0).trans rfl
              have bx1 := (blk_cell HM.out.box 1).trans rfl
              have fbx := blk_frozen HM.out.box 0
              by_cases ht : t.length = 0
              · have ht0 : t = [] := List.length_eq_zero_iff.1 ht
                have HN2 := HN.out
                rw [if_pos ht0] at HN2
                have HN3 := Aside0.mk HN2
                have hti : (t.length : Int) = 0 := by omega
                clear HN2
                go_wp2
                all_goals
                  go_roundg (leftN d - 1)
                  case measure => have := HLT.out; have := HKX.out; omega
                  case rel => exact ⟨_, _, _, _, by rw [Value.slice.injEq]; exact ⟨rfl, by simp [List.length_append], rfl⟩, ⟨LpI.drop HM.out _ HN3.out⟩, by have := HLT.out; show leftN l.toArray ≤ _; have e : leftN l.toArray = (l.map (·.f0.length)).sum := rfl; rw [e]; omega⟩
              · have ht0 : t ≠ [] := fun e => ht (by rw [e]; rfl)
                have HN2 := HN.out
                rw [if_neg ht0] at HN2
                have HN3 := Aside0.mk HN2
                have hti : (0 : Int) < (t.length : Int) := by omega
                have hpu := HPush_T p O1 l.toArray ⟨t, a⟩ (some ⟨ad0.block, ad0.off + 2, none⟩) (c0 - 1) _ w (HM.out.set (.slice (some ⟨ad0.block, ad0.off + 2, none⟩) t.length (c0 - 1))).1 (fun k hk => (HO1.out k hk).1) HPP.out HOK3.out (HN3.out.good HOK.out (List.mem_append_right _ (List.mem_singleton.2 rfl))) (tail_K HC0.out HLC.out ht0) (perm_sz HPM.out HH.out.sz)
                clear HN2
                go_wp2_with fail
                refine hpu.mono ?_
                rintro e w8 ⟨rfl, hF8, d8, hP8, hk8, hpm8⟩
                have HL8 := Aside0.mk (LpI.push HM.out rfl (HN3.out.perm hpm8) hF8 hP8 hk8)
                have HS8 := Aside0.mk (leftN_perm hpm8)
                clear hpu hF8 hP8 hk8 hpm8
                go_wp2
                go_roundg (leftN d - 1)
                case measure => have := HLT.out; have := HKX.out; omega
                case rel => exact ⟨d8, _, _, _, by rw [Value.slice.injEq]; exact ⟨rfl, by simp [List.length_append], rfl⟩, HL8, by have h1 := HLT.out; have h2 := HS8.out; rw [List.map_append, List.sum_append] at h2; simp at h2; omega⟩
end Go.Proofs.Ythlelhndmnkmjaa.Pr
end
