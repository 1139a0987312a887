/- MgT MgU MgV MgW -/
import Derived.Test.YthlelhndmnkmjaaMhD
import Derived.Test.YthlelhndmnkmjaaPrf14
import Derived.Test.YthlelhndmnkmjaaPrf17
import Derived.Test.YthlelhndmnkmjaaPrf21
import Derived.Test.YthlelhndmnkmjaaPrf36
import Derived.Test.YthlelhndmnkmjaaRdk
section
namespace Go.Proofs.Ythlelhndmnkmjaa.Pr
open Go.RowKit Go.Proofs.Ythlelhndmnkmjaa.Brid Go.Proofs.YthlelhndmnkmjaaW.PrintWords Go.Proofs.YthlelhndmnkmjaaW.PrintLast Go.Proofs.YthlelhndmnkmjaaW.PrintMore
set_option linter.unusedVariables false
set_option linter.unusedSimpArgs false
set_option maxHeartbeats 4000000
set_option maxRecDepth 100000
theorem sameV_self (l : List S37) : sameV l l = true := by
  have : ∀ l : List S37, (l.zip l).all (fun p => eqW p.1 p.2) = true := by
    intro l
    induction l with
    | nil => rfl
    | cons x r ih => rw [List.zip_cons_cons, List.all_cons, ih]; simp [eqW]
  rw [sameV, this]; simp
theorem liveV_cons (x : S41) (r : List S41) : liveV (x :: r) = if x.f0 = true then liveV r else x :: liveV r := by
  rw [liveV, List.filter_cons]
  cases x.f0 <;> simp [liveV]
theorem live_from (l : List S41) (hn : l.length ≤ 1099511627776) : ∀ (m i : Nat) (acc : List S41), i + m = l.length → acc.length ≤ i → tithebarnref14_Live.l0 (m + 1) l acc (i : Int) = some (acc ++ liveV (l.drop i)) := by
  intro m
  induction m with
  | zero =>
    intro i acc hi ha
    unfold tithebarnref14_Live.l0
    rw [if_neg (by omega), List.drop_of_length_le (by omega)]
    simp [liveV]
  | succ m ih =>
    intro i acc hi ha
    have hil : i < l.length := by omega
    have hw : wrap64 ((i : Int) + 1) = ((i + 1 : Nat) : Int) := by unfold wrap64; omega
    unfold tithebarnref14_Live.l0
    rw [if_pos (by omega), if_pos (by omega), rdD_at l i hil, hw, List.drop_eq_getElem_cons hil]
    cases hd : l[i].f0 with
    | true =>
      rw [if_pos rfl, ih (i + 1) acc (by omega) (by omega), liveV_cons, if_pos hd]
    | false =>
      rw [if_neg (by simp), if_pos (by omega), ih (i + 1) _ (by omega) (by simp; omega)]
      have e : (⟨false, l[i].f1⟩ : S41) = l[i] := by rw [← hd]
      rw [e, liveV_cons, if_neg (by rw [hd]; simp), List.append_assoc]
      rfl
theorem live_f (l : List S41) (hn : l.length ≤ 1099511627776) : tithebarnref14_Live.f (l.length + 1) l = some (liveV l) := by
  unfold tithebarnref14_Live.f
  have := live_from l hn l.length 0 [] (by omega) (by simp)
  simpa using this
theorem same_self (d : S41) : tithebarnref07_Same.f d.f0 d.f1 d.f0 d.f1 = some true := by
  unfold tithebarnref07_Same.f tithebarnref02_Same_c.f
  simp [sameV_self]
theorem sameAll_from (l : List S41) (hn : l.length ≤ 1099511627776) : ∀ (m i : Nat), i + m = l.length → tithebarnref07_SameAll.l0 (m + 1) l l (i : Int) = some true := by
  intro m
  induction m with
  | zero =>
    intro i hi
    unfold tithebarnref07_SameAll.l0
    rw [if_neg (by omega)]
  | succ m ih =>
    intro i hi
    have hil : i < l.length := by omega
    have hw : wrap64 ((i : Int) + 1) = ((i + 1 : Nat) : Int) := by unfold wrap64; omega
    unfold tithebarnref07_SameAll.l0
    rw [if_pos (by omega), if_pos (by omega), if_pos (by omega), rdD_at l i hil, same_self, Option.bind_some, if_pos rfl, hw]
    exact ih (i + 1) (by omega)
theorem sameAll_f (l : List S41) (hn : l.length ≤ 1099511627776) : tithebarnref07_SameAll.f (l.length + 1) l l = some true := by
  unfold tithebarnref07_SameAll.f
  rw [if_pos rfl]
  exact sameAll_from l hn l.length 0 (by omega)
theorem SameAll_T (A : Option Addr) (c : Nat) (l : List S41) (A' : Option Addr) (c' : Nat) (w : World) (h : Kd.C k41 w A l.length l) (hc : l.length ≤ c) (h' : Kd.C k41 w A' l.length l) (hc' : l.length ≤ c') (hn : l.length ≤ 1099511627776) :
    Calls Try.prog 17 #[.slice A l.length c, .slice A' l.length c'] w fun e w' => e = .returned (.bool true) ∧ Below w.heap.size w w' :=
  tithebarnref07_SameAll.calls _ A c l A' c' l true w h hc h' hc' (sameAll_f l hn)
theorem early_from (xss : List (List S41)) (hn : xss.length ≤ 1099511627776) (hl : ∀ l ∈ xss, l.length ≤ 1099511627776) : ∀ (m i : Nat) (acc : List (List S41)), i + m = xss.length → acc.length ≤ i → i ≤ 12 → tithebarnlaw14_early.l0 (m + 1) xss acc (i : Int) = some (acc ++ ((xss.take 12).drop i).map (List.take 60)) := by
  intro m
  induction m with
  | zero =>
    intro i acc hi ha h12
    unfold tithebarnlaw14_early.l0
    rw [if_neg (by omega), List.drop_of_length_le (by rw [List.length_take]; omega)]
    simp
  | succ m ih =>
    intro i acc hi ha h12
    have hil : i < xss.length := by omega
    have hw : wrap64 ((i : Int) + 1) = ((i + 1 : Nat) : Int) := by unfold wrap64; omega
    unfold tithebarnlaw14_early.l0
    rw [if_pos (by omega)]
    by_cases h : i < 12
    · have e : rd_L6 xss (i : Int) = xss[i] := by simp [rd_L6, List.getD_eq_getElem?_getD, List.getElem?_eq_getElem hil]
      have hm : mn ((xss[i].length : Nat) : Int) 60 = ((min xss[i].length 60 : Nat) : Int) := by unfold mn; omega
      rw [if_pos (by omega), if_pos (by omega), e, hm, if_pos (by omega), if_pos (by omega), if_pos (by omega), hw, ih (i + 1) _ (by omega) (by simp; omega) (by omega)]
      have e2 : (xss[i]).take ((min xss[i].length 60 : Nat) : Int).toNat = (xss[i]).take 60 := by
        rw [Int.toNat_natCast]
        rcases Nat.le_total xss[i].length 60 with h1 | h1
        · rw [Nat.min_eq_left h1, List.take_of_length_le (Nat.le_refl _), List.take_of_length_le h1]
        · rw [Nat.min_eq_right h1]
      have e3 : (xss.take 12).drop i = xss[i] :: (xss.take 12).drop (i + 1) := by
        rw [List.drop_eq_getElem_cons (by rw [List.length_take]; omega), List.getElem_take]
      rw [e2, e3, List.map_cons, List.append_assoc]
      rfl
    · have : i = 12 := by omega
      subst this
      rw [if_neg (by omega), List.drop_of_length_le (by rw [List.length_take]; omega)]
      simp
def earlyV (xss : List (List S41)) : List (List S41) := (xss.take 12).map (List.take 60)
theorem early_f (xss : List (List S41)) (hn : xss.length ≤ 1099511627776) (hl : ∀ l ∈ xss, l.length ≤ 1099511627776) : tithebarnlaw14_early.f (xss.length + 1) xss = some (earlyV xss) := by
  unfold tithebarnlaw14_early.f
  have := early_from xss hn hl xss.length 0 [] (by omega) (by simp) (by omega)
  simpa [earlyV] using this
end Go.Proofs.Ythlelhndmnkmjaa.Pr
end
section
namespace Go.Proofs.Ythlelhndmnkmjaa.Pr
open Go.RowKit Go.Proofs.Ythlelhndmnkmjaa.Brid Go.Proofs.YthlelhndmnkmjaaW.PrintWords Go.Proofs.YthlelhndmnkmjaaW.PrintLast Go.Proofs.YthlelhndmnkmjaaW.PrintMore
set_option linter.unusedVariables false
set_option linter.unusedSimpArgs false
set_option maxHeartbeats 4000000
set_option maxRecDepth 100000
theorem Early_T (A : Option Addr) (c : Nat) (xss : List (List S41)) (w : World) (hC : Kd.C (Kd.slice 41 k41) w A xss.length xss) (hc : xss.length ≤ c) (hn : xss.length ≤ 1099511627776) (hl : ∀ l ∈ xss, l.length ≤ 1099511627776) :
    Calls Try.prog 14 #[.slice A xss.length c] w fun e w' => Below w.heap.size w w' ∧ ∃ A' c', e = .returned (.slice A' (earlyV xss).length c') ∧ (earlyV xss).length ≤ c' ∧ Kd.C (Kd.slice 41 k41) w' A' (earlyV xss).length (earlyV xss) :=
  (tithebarnlaw14_early.calls (xss.length + 1) (fun k => k < w.heap.size) A c xss (earlyV xss) w (Kd.V_mk hc (Kd.C_F (Kd.heap_slice _ heap41) hC)) (early_f xss hn hl)).mono fun e w' ⟨v, he, hN, hb⟩ => by
    obtain ⟨A', c', hv, h1, h2⟩ := Kd.N_reads hN
    subst hv
    exact ⟨hb, A', c', he, h1, h2⟩
theorem RLive_T (A : Option Addr) (c : Nat) (l : List S41) (w : World) (hC : Kd.C k41 w A l.length l) (hc : l.length ≤ c) (hn : l.length ≤ 1099511627776) :
    Calls Try.prog 21 #[.slice A l.length c] w fun e w' => Below w.heap.size w w' ∧ ∃ A' c', e = .returned (.slice A' (liveV l).length c') ∧ (liveV l).length ≤ c' ∧ Kd.C k41 w' A' (liveV l).length (liveV l) :=
  (tithebarnref14_Live.calls (l.length + 1) (fun k => k < w.heap.size) A c l (liveV l) w (Kd.V_mk hc (Kd.C_F heap41 hC)) (live_f l hn)).mono fun e w' ⟨v, he, hN, hb⟩ => by
    obtain ⟨A', c', hv, h1, h2⟩ := Kd.N_reads hN
    subst hv
    exact ⟨hb, A', c', he, h1, h2⟩
end Go.Proofs.Ythlelhndmnkmjaa.Pr
end
section
namespace Go.Proofs.Ythlelhndmnkmjaa.Pr
open Go.RowKit Go.Proofs.Ythlelhndmnkmjaa.Brid Go.Proofs.YthlelhndmnkmjaaW.PrintWords Go.Proofs.YthlelhndmnkmjaaW.PrintLast Go.Proofs.YthlelhndmnkmjaaW.PrintMore
set_option linter.unusedVariables false
set_option linter.unusedSimpArgs false
set_option maxHeartbeats 4000000
set_option maxRecDepth 100000
def dd (n : Int) (g : Bool) : S41 := ⟨g, [⟨false, n, ⟨#[]⟩⟩]⟩
theorem row_T (n : Int) (g : Bool) (w : World) : Calls Try.prog 36 #[.int .i64 n, .bool g] w fun e w' => ∃ A c, e = .returned (.agg #[.bool g, .slice A 1 c]) ∧ k41.K w' (dd n g) [.bool g, .slice A 1 c] ∧ Below w.heap.size w w' :=
  (tithebarnlaw14_row.calls n g g [⟨false, n, ⟨#[]⟩⟩] w rfl).mono fun e w' ⟨v, he, hR, hb⟩ => by
    obtain ⟨A, c, hv, hl, hC⟩ := Kd.R_reads hR
    subst hv
    exact ⟨A, c, he, k41_mk w' (dd n g) (A1 := A) (c1 := c) hl hC, hb⟩
/-- two deeds laid in a block -/
theorem C_two {w : World} {g : Nat} {x y : S41} {a b c d : Value} (h : w.heap[g]? = some (.cells #[a, b, c, d] 41 (0, 0))) (hx : k41.K w x [a, b]) (hy : k41.K w y [c, d]) : Kd.C k41 w (some ⟨g, 0, none⟩) [x, y].length [x, y] := by
  refine ⟨rfl, by simp, fun _ => ⟨_, rfl, fun j p hj => ?_⟩⟩
  rcases j with _ | _ | j
  · simp at hj
    subst hj
    refine ⟨[a, b], rfl, hx, fun i u hu => ?_⟩
    rw [add0, blk_cell h]
    rcases i with _ | _ | i
    · simpa using hu
    · simpa using hu
    · simp at hu
  · simp at hj
    subst hj
    refine ⟨[c, d], rfl, hy, fun i u hu => ?_⟩
    rw [add0, blk_cell h]
    rcases i with _ | _ | i
    · simpa [k41, Kd.iso, Kd.pair, Kd.bool, Kd.scalar, Kd.slice] using hu
    · simpa [k41, Kd.iso, Kd.pair, Kd.bool, Kd.scalar, Kd.slice] using hu
    · simp at hu
  · simp at hj
theorem CC_two {w : World} {g : Nat} {x y : List S41} {u v : Value} (h : w.heap[g]? = some (.cells #[u, v] 25 (0, 0))) (hx : (Kd.slice 41 k41).K w x [u]) (hy : (Kd.slice 41 k41).K w y [v]) : Kd.C (Kd.slice 41 k41) w (some ⟨g, 0, none⟩) [x, y].length [x, y] := by
  refine ⟨rfl, by simp, fun _ => ⟨_, rfl, fun j p hj => ?_⟩⟩
  rcases j with _ | _ | j
  · simp at hj
    subst hj
    refine ⟨[u], rfl, hx, fun i q hu => ?_⟩
    rw [add0, blk_cell h]
    rcases i with _ | i
    · simpa using hu
    · simp at hu
  · simp at hj
    subst hj
    refine ⟨[v], rfl, hy, fun i q hu => ?_⟩
    rw [add0, blk_cell h]
    rcases i with _ | i
    · simpa [Kd.slice] using hu
    · simp at hu
  · simp at hj
def llx : List (List S41) := [[dd 1 false, dd 3 false], [dd 1 true, dd 2 false]]
theorem llx_ok : ∀ l ∈ llx, OkL l := by
  intro l hl
  simp only [llx, List.mem_cons, List.not_mem_nil, or_false] at hl
  rcases hl with rfl | rfl
  · refine ⟨by simp [dd], ?_⟩
    simp only [SortedD, List.pairwise_cons]
    refine ⟨?_, by simp⟩
    intro a ha
    simp at ha
    subst ha
    decide
  · refine ⟨by simp [dd], ?_⟩
    simp only [SortedD, List.pairwise_cons]
    refine ⟨?_, by simp⟩
    intro a ha
    simp at ha
    subst ha
    decide
theorem key_dd (n : Int) (g : Bool) : keyT (dd n g) = ⟨false, n, ⟨#[]⟩⟩ := rfl
theorem less_dd (a b : Int) (h : a < b) : lessT ⟨false, a, ⟨#[]⟩⟩ ⟨false, b, ⟨#[]⟩⟩ = true ∧ lessT ⟨false, b, ⟨#[]⟩⟩ ⟨false, a, ⟨#[]⟩⟩ = false := by
  have h1 : lessT ⟨false, a, ⟨#[]⟩⟩ ⟨false, b, ⟨#[]⟩⟩ = true := by simp [lessT, Thy.less, h]; exact .inl (by omega)
  exact ⟨h1, lessT_asymm h1⟩
theorem llx_nw : nwV llx = [dd 1 false, dd 2 false, dd 3 false] := by
  have l12 := less_dd 1 2 (by decide)
  have l13 := less_dd 1 3 (by decide)
  have l23 := less_dd 2 3 (by decide)
  have e1 := lessT_irrefl (⟨false, 1, ⟨#[]⟩⟩ : S37)
  have hf : ∀ n g, (dd n g).f1.length ≠ 0 := fun n g => by simp [dd]
  have hr : llx.reverse.flatten = [dd 1 true, dd 2 false, dd 1 false, dd 3 false] := by simp [llx]
  rw [nwV, hr, putsV]
  simp only [List.foldl_cons, List.foldl_nil, if_neg (hf _ _)]
  simp [putV, preOf, postOf, key_dd, l12, l13, l23, e1]
theorem K_two {w : World} {g : Nat} {l : List S41} (h : Kd.C k41 w (some ⟨g, 0, none⟩) l.length l) (hl : l.length = 2) : (Kd.slice 41 k41).K w l [.slice (some ⟨g, 0, none⟩) 2 2] := ⟨some ⟨g, 0, none⟩, 2, by rw [hl], by omega, h⟩
theorem lives_T (w : World) : Calls Try.prog 13 #[] w fun e w' => e = .returned (.bool true) ∧ Below w.heap.size w w' := by
  go_enter Try.func13, Try.ntmps13
  go_wp2_with fail
  refine (row_T 1 false _).mono ?_
  rintro e w1 ⟨A1, c1, rfl, k1, b1⟩
  have K1 := Aside0.mk k1
  have B1 := Aside0.mk b1
  clear k1 b1
  go_wp2_with fail
  refine (row_T 3 false _).mono ?_
  rintro e w2 ⟨A2, c2, rfl, k2, b2⟩
  have x1 := heap_alloc_new w2 (.cells #[.bool false, .slice A1 1 c1, .bool false, .slice A2 1 c2] 41)
  have bx := below_alloc (Below.refl _ w2) (.cells #[.bool false, .slice A1 1 c1, .bool false, .slice A2 1 c2] 41)
  have C1 := Aside0.mk (K_two (C_two x1 (k41.K_below bx (k41.K_below b2 K1.out)) (k41.K_below bx k2)) rfl)
  have B2 := Aside0.mk (below_then B1.out B1.out.size (below_then b2 b2.size bx))
  clear k2 b2 x1 bx
  go_wp2_with fail
  generalize w2.alloc (.cells #[.bool false, .slice A1 1 c1, .bool false, .slice A2 1 c2] 41) = w3 at *
  generalize w2.heap.size = g1 at *
  refine (row_T 1 true _).mono ?_
  rintro e w4 ⟨A4, c4, rfl, k4, b4⟩
  have K4 := Aside0.mk k4
  have B4 := Aside0.mk b4
  clear k4 b4
  go_wp2_with fail
  refine (row_T 2 false _).mono ?_
  rintro e w5 ⟨A5, c5, rfl, k5, b5⟩
  have x5 := heap_alloc_new w5 (.cells #[.bool true, .slice A4 1 c4, .bool false, .slice A5 1 c5] 41)
  have bx := below_alloc (Below.refl _ w5) (.cells #[.bool true, .slice A4 1 c4, .bool false, .slice A5 1 c5] 41)
  have C5 := Aside0.mk (K_two (C_two x5 (k41.K_below bx (k41.K_below b5 K4.out)) (k41.K_below bx k5)) rfl)
  have B5 := Aside0.mk (below_then B4.out B4.out.size (below_then b5 b5.size bx))
  clear k5 b5 x5 bx
  have x6 := heap_alloc_new (w5.alloc (.cells #[.bool true, .slice A4 1 c4, .bool false, .slice A5 1 c5] 41)) (.cells #[.slice (some ⟨g1, 0, none⟩) 2 2, .slice (some ⟨w5.heap.size, 0, none⟩) 2 2] 25)
  have b6 := below_alloc (Below.refl _ (w5.alloc (.cells #[.bool true, .slice A4 1 c4, .bool false, .slice A5 1 c5] 41))) (.cells #[.slice (some ⟨g1, 0, none⟩) 2 2, .slice (some ⟨w5.heap.size, 0, none⟩) 2 2] 25)
  have z6 : (w5.alloc (.cells #[.bool true, .slice A4 1 c4, .bool false, .slice A5 1 c5] 41)).heap.size = w5.heap.size + 1 := by simp
  rw [z6] at x6
  have CC := Aside0.mk (CC_two x6 ((Kd.slice 41 k41).K_below b6 ((Kd.slice 41 k41).K_below B5.out C1.out)) ((Kd.slice 41 k41).K_below b6 C5.out))
  have B6 := Aside0.mk (below_then B2.out B2.out.size (below_then B5.out B5.out.size b6))
  clear x6 b6 z6
  go_wp2_with fail
  refine (Newest_T (some ⟨w5.heap.size + 1, 0, none⟩) 2 llx _ CC.out (Nat.le_refl _) (by decide) (by decide)).mono ?_
  rintro e w7 hN
  obtain ⟨A7, c7, rfl, hl7, hC7⟩ := hN.good llx_ok
  have B7 := Aside0.mk (below_then B6.out B6.out.size hN.below)
  rw [llx_nw] at hl7 hC7 ⊢
  have HL7 := Aside0.mk hl7
  have HC7 := Aside0.mk hC7
  obtain ⟨ad, Ar, cr, eA, x0, x1, hcr, hCr⟩ := at_T41 hC7 (0 : Int) (by omega) (by decide)
  subst eA
  have e0 : rd_T41 [dd 1 false, dd 2 false, dd 3 false] 0 = dd 1 false := rfl
  rw [e0] at x0
  simp only [Int.toNat_zero, Nat.zero_mul, add0_at] at x0
  have x0 : w7.cell? ad = some (.bool false) := x0
  clear hN hl7 hC7 x1 hcr hCr e0
  go_wp2_with fail
  refine (row_T 1 true _).mono ?_
  rintro e w8 ⟨A8, c8, rfl, k8, b8⟩
  have K8 := Aside0.mk k8
  have B8 := Aside0.mk b8
  clear k8 b8 x0
  go_wp2_with fail
  refine (row_T 2 false _).mono ?_
  rintro e w9 ⟨A9, c9, rfl, k9, b9⟩
  have x9 := heap_alloc_new w9 (.cells #[.bool true, .slice A8 1 c8, .bool false, .slice A9 1 c9] 41)
  have bx := below_alloc (Below.refl _ w9) (.cells #[.bool true, .slice A8 1 c8, .bool false, .slice A9 1 c9] 41)
  have C9 := Aside0.mk (C_two x9 (k41.K_below bx (k41.K_below b9 K8.out)) (k41.K_below bx k9))
  have B9 := Aside0.mk (below_then B8.out B8.out.size (below_then b9 b9.size bx))
  clear k9 b9 x9 bx
  go_wp2_with fail
  refine (Live_T (some ⟨w9.heap.size, 0, none⟩) 2 [dd 1 true, dd 2 false] _ C9.out (Nat.le_refl _) (by decide)).mono ?_
  rintro e wa ⟨hba, Aa, ca, rfl, hla, hCa⟩
  have hlv : (liveV [dd 1 true, dd 2 false]).length = 1 := rfl
  rw [hlv]
  have BA := Aside0.mk (below_then B9.out B9.out.size hba)
  have HCS := Aside0.mk (Kd.C_below HC7.out BA.out)
  clear hba hla hCa hlv
  go_wp2_with fail
  refine (Split_T (some ad) c7 [dd 1 false, dd 2 false, dd 3 false] 2 _ HCS.out HL7.out (by decide) (by decide)).mono ?_
  rintro e wb ⟨hbb, Ab, cb, rfl, hlb, hCb⟩
  have hsv : (splitV [dd 1 false, dd 2 false, dd 3 false] 2).length = 2 := rfl
  rw [hsv]
  have BB := Aside0.mk (below_then B7.out B7.out.size (below_then BA.out BA.out.size hbb))
  clear hbb hlb hCb hsv
  go_wp2
  go_ret
  exact ⟨rfl, BB.out⟩
end Go.Proofs.Ythlelhndmnkmjaa.Pr
end
section
namespace Go.Proofs.Ythlelhndmnkmjaa.Pr
open Go.RowKit Go.Proofs.Ythlelhndmnkmjaa.Brid Go.Proofs.YthlelhndmnkmjaaW.PrintWords Go.Proofs.YthlelhndmnkmjaaW.PrintLast Go.Proofs.YthlelhndmnkmjaaW.PrintMore
set_option linter.unusedVariables false
set_option linter.unusedSimpArgs false
set_option maxHeartbeats 4000000
set_option maxRecDepth 100000
theorem flat_le {k : Nat} : ∀ (xss : List (List S41)), (∀ l ∈ xss, l.length ≤ k) → sumLen xss ≤ k * xss.length := by
  intro xss
  induction xss with
  | nil => intro _; simp [sumLen]
  | cons x xs ih =>
    intro h
    have h1 := ih (fun l hl => h l (List.mem_cons_of_mem _ hl))
    have h2 := h x List.mem_cons_self
    unfold sumLen at h1 ⊢
    rw [List.flatten_cons, List.length_append, List.length_cons, Nat.mul_add, Nat.mul_one]
    omega
theorem early_len (xss : List (List S41)) : (earlyV xss).length ≤ 12 := by simp [earlyV]; omega
theorem early_mem {xss : List (List S41)} {l : List S41} (h : l ∈ earlyV xss) : ∃ x ∈ xss, l = x.take 60 := by
  obtain ⟨x, hx, rfl⟩ := List.mem_map.1 h
  exact ⟨x, List.take_subset _ _ hx, rfl⟩
theorem early_each {xss : List (List S41)} {l : List S41} (h : l ∈ earlyV xss) : l.length ≤ 60 := by
  obtain ⟨x, _, rfl⟩ := early_mem h
  rw [List.length_take]; omega
theorem early_sum (xss : List (List S41)) : sumLen (earlyV xss) ≤ 720 := Nat.le_trans (flat_le (k := 60) _ (fun l hl => early_each hl)) (by have := early_len xss; omega)
theorem key_bound {d : S41} {n : Nat} (h : B41 d n) : (keyT d).f2.size ≤ n := by
  by_cases h0 : d.f1.length = 0
  · have : d.f1 = [] := List.length_eq_zero_iff.1 h0
    have e : (keyT d).f2 = ⟨#[]⟩ := by rw [keyT, this]; rfl
    rw [e]; exact Nat.zero_le _
  · exact (h.2.2 _ (keyT_mem (by omega))).2.2
structure InB (xss : List (List S41)) : Prop where
  len : xss.length ≤ 1048576
  each : ∀ l ∈ xss, l.length ≤ 1048576
  str : ∀ l ∈ xss, ∀ d ∈ l, (keyT d).f2.size ≤ 1048576
theorem inB_of {xss : List (List S41)} (h : BL (BL B41) xss 1048576) : InB xss := ⟨h.1, fun l hl => (h.2 l hl).1, fun l hl d hd => key_bound ((h.2 l hl).2 d hd)⟩
theorem inB_str {xss : List (List S41)} (h : InB xss) : ∀ l ∈ earlyV xss, ∀ d ∈ l, (keyT d).f2.size ≤ 9223372036854775807 := fun l hl d hd => by
  obtain ⟨x, hx, rfl⟩ := early_mem hl
  have := h.str x hx d (List.take_subset _ _ hd)
  omega
end Go.Proofs.Ythlelhndmnkmjaa.Pr
end
