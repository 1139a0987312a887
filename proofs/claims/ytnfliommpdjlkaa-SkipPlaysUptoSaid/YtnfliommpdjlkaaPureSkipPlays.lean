/- The law SkipPlays: its walk. -/
import Derived.Test.YtnfliommpdjlkaaRfB
import Derived.Deep.RegionWith
import Derived.Deep.RegionHeld3
import Derived.RangeFuncNested
import Derived.Sort.LoopGhostIn
import Derived.Stop.RegionWithIn
import Derived.RegionIn
import Derived.RangeFuncBound
import Derived.RangeFuncCalls
import Derived.RangeFuncLeaves
import Derived.OwnWalkIn
import Derived.TacticsInMore
import Derived.LoopNIn
import Derived.LoopIn
import Derived.Shelf.AbstractIn
namespace Go.Proofs.Ytnfliommpdjlkaa.Pr
open Go.RowKit Go.Proofs.Ytnfliommpdjlkaa.Brid Go.Proofs.YtnfliommpdjlkaaW.PrintWords Go.Proofs.YtnfliommpdjlkaaW.PrintLast Go.Proofs.YtnfliommpdjlkaaW.PrintMore
set_option linter.unusedVariables false
set_option linter.unusedSimpArgs false
set_option maxHeartbeats 4000000
set_option maxRecDepth 100000
attribute [local go_sem] Oper.semAt_some
theorem ownFrom_RK {β α : Type} {d : Kd α} {e B n0 : Nat} {ok : Nat → Prop} {v : Value} {l : List α} : OwnFrom B (fun (_ : β) V => Kd.R d e V n0 ok v l) := by
  intro s A A' row h hg hr
  refine Kd.R_mono (Kd.R_move (Kd.R_bound h) (fun k hk => hg.block k hk.2.2.1 (fun e => ?_))) (fun _ hk => hk.1)
  obtain ⟨_, o, ho, hc⟩ := hr k e.symm
  obtain ⟨_, _, _, q, _, cells, hcell⟩ := hk
  rw [hcell] at ho
  cases ho
  cases hc
/-- both lists, side by side: what the skip list owns is OA; it has ds, the reference's list ds' -/
structure PlS (we w : World) (q : Nat) (OA : Nat → Prop) (na : List (Sk.Nd S25)) (ds ds' : List S25) : Prop where
  skl : SkL w OA we.heap.size na
  has : na.map (·.d) = ds
  own : ∀ k, OA k → we.heap.size ≤ k ∧ k < w.heap.size
  ref : RefL w we we.heap.size q OA ds'
  bel : Below we.heap.size we w
  box : w.heap[q + 1]? = some (.cells #[.pointer (some ⟨q, 0, none⟩)] 52 (0, 0))
  nbx : ¬ OA (q + 1)
  low : we.heap.size ≤ q
theorem RefL.below {w w' we : World} {b0 q : Nat} {OA : Nat → Prop} {ds : List S25} (h : RefL w we b0 q OA ds) (hb : Below w.heap.size w w') : RefL w' we b0 q OA ds := by
  obtain ⟨v, hq, hR, hn⟩ := h
  exact ⟨v, blk_below hq hb, Kd.R_below hR hb, hn⟩
theorem PlS.below {we w w' : World} {q : Nat} {OA : Nat → Prop} {na : List (Sk.Nd S25)} {ds ds' : List S25} (h : PlS we w q OA na ds ds') (hb : Below w.heap.size w w') : PlS we w' q OA na ds ds' :=
  ⟨h.skl.below hb, h.has, fun k hk => ⟨(h.own k hk).1, Nat.lt_of_lt_of_le (h.own k hk).2 hb.size⟩, h.ref.below hb, below_then h.bel h.bel.size hb, blk_below h.box hb, h.nbx, h.low⟩
theorem PlS.put_a {we w w7 : World} {q : Nat} {OA : Nat → Prop} {na ns' : List (Sk.Nd S25)} {ds ds' dsn : List S25} (h : PlS we w q OA na ds ds') (hF : Fr OA w w7) (H : SkL w7 (fun k => OA k ∨ w.heap.size ≤ k) we.heap.size ns') (hd : ns'.map (·.d) = dsn) :
    PlS we w7 q (fun k => (OA k ∨ w.heap.size ≤ k) ∧ k < w7.heap.size) ns' dsn ds' :=
  ⟨H.bound, hd, fun k hk => ⟨hk.1.elim (fun h1 => (h.own k h1).1) (fun h1 => Nat.le_trans h.bel.size h1), hk.2⟩, h.ref.put_a hF, below_fr h.bel hF (fun k hk => (h.own k hk).1),
    (hF.block _ (Array.getElem?_eq_some_iff.1 h.box).1 h.nbx).trans h.box, fun hk => hk.1.elim h.nbx (fun h1 => by have := (Array.getElem?_eq_some_iff.1 h.box).1; omega), h.low⟩
theorem PlS.put_b {we w w8 : World} {q : Nat} {OA : Nat → Prop} {na : List (Sk.Nd S25)} {ds ds' dsn : List S25} (h : PlS we w q OA na ds ds') (hF : Fr (fun k => k = q) w w8) (hQ : RefL w8 we we.heap.size q OA dsn) : PlS we w8 q OA na ds dsn := by
  obtain ⟨_, _, _, hnq⟩ := h.ref
  exact ⟨h.skl.keep (fun k hk hlt => hF.block k hlt (fun e => by subst e; exact hnq hk)), h.has, fun k hk => ⟨(h.own k hk).1, Nat.lt_of_lt_of_le (h.own k hk).2 hF.size⟩, hQ, below_fr h.bel hF (fun k hk => by subst hk; exact h.low),
    (hF.block _ (Array.getElem?_eq_some_iff.1 h.box).1 (by omega)).trans h.box, h.nbx, h.low⟩
theorem PlS.boxc {we w : World} {q : Nat} {OA : Nat → Prop} {na : List (Sk.Nd S25)} {ds ds' : List S25} (h : PlS we w q OA na ds ds') : w.cell? ⟨q + 1, 0, none⟩ = some (.pointer (some ⟨q, 0, none⟩)) := (blk_cell h.box 0).trans rfl
theorem PlS.len {we w : World} {q : Nat} {OA : Nat → Prop} {na : List (Sk.Nd S25)} {ds ds' : List S25} (h : PlS we w q OA na ds ds') : Calls Try.prog 29 #[.pointer (some ⟨we.heap.size, 0, none⟩)] w fun e w' => e = .returned (.int .i64 ds.length) ∧ w' = w := by
  have := Len_T we.heap.size na OA w h.skl
  rwa [show na.length = ds.length by rw [← h.has, List.length_map]] at this
theorem PlS.byt {we w : World} {q : Nat} {OA : Nat → Prop} {na : List (Sk.Nd S25)} {ds ds' : List S25} (h : PlS we w q OA na ds ds') : Calls Try.prog 30 #[.pointer (some ⟨we.heap.size, 0, none⟩)] w fun e w' => e = .returned (.int .i64 (wrap64 (bytesI ds))) ∧ w' = w := by
  have := Bytes_T we.heap.size na OA w h.skl
  rwa [h.has] at this
theorem PlS.byr {we w : World} {q : Nat} {OA : Nat → Prop} {na : List (Sk.Nd S25)} {ds ds' : List S25} (h : PlS we w q OA na ds ds') (hn : ds'.length ≤ 1099511627776) (hl : ∀ e ∈ ds', e.f1.length ≤ 1099511627776) :
    Calls Try.prog 31 #[.pointer (some ⟨q, 0, none⟩)] w fun e w' => e = .returned (.int .i64 (wrap64 (bytesI ds'))) ∧ w' = w := by
  obtain ⟨A, c, hq, hc, hC, _⟩ := h.ref.reads
  exact Bytes_R q ds' A c w hq (oldK_C hC h.bel) hn hl
theorem PlS.put_r {we w : World} {q : Nat} {OA : Nat → Prop} {na : List (Sk.Nd S25)} {ds dsn l : List S25} {d : S25} {A0 : Option Addr} {c0 : Nat} {pb : Bool} (h : PlS we w q OA na ds (putsV l)) (hC : Kd.C k27 we A0 d.f1.length d.f1) (hc0 : d.f1.length ≤ c0) (hn : l.length ≤ 1099511627776)
    (hs : ∀ e ∈ l, 0 < e.f1.length → (keyT e).f2.size ≤ 9223372036854775807) (hk : 0 < d.f1.length → (keyT d).f2.size ≤ 9223372036854775807) (hpb : decide (d.f1.length ≠ 0) = pb) (hdn : putsV (l ++ [d]) = dsn) :
    Calls Try.prog 28 #[.pointer (some ⟨q, 0, none⟩), .agg #[.bool d.f0, .slice A0 d.f1.length c0]] w fun e w' => e = .returned (.bool pb) ∧ Fr (fun k => k = q) w w' ∧ RefL w' we we.heap.size q OA dsn := by
  subst hpb hdn
  exact PutRef_T d A0 c0 l q we.heap.size OA we w h.ref (fun k hk => (h.own k hk).2) h.bel.size h.bel hC hc0 hn hs hk
theorem getR_flat {o : Option S25} {w w' : World} {e : Ending} {g : S25} {b : Bool} (hg : o.getD z25 = g) (hb : o.isSome = b) (h : GetR o w w' e) : ∃ A c, e = .returned (.tuple #[.agg #[.bool g.f0, .slice A g.f1.length c], .bool b]) ∧ g.f1.length ≤ c ∧ Kd.C k27 w' A g.f1.length g.f1 := by
  subst hg hb
  cases o with
  | none => exact ⟨none, 0, h, Nat.le_refl _, ⟨rfl, Nat.zero_le _, fun h => absurd h (Nat.lt_irrefl 0)⟩⟩
  | some d =>
    obtain ⟨v, he, hR⟩ := h
    obtain ⟨A, c, rfl, hl, hC⟩ := Kd.R_reads hR
    exact ⟨A, c, he, hl, hC⟩
theorem getQ_flat {o : Option S25} {w' : World} {e : Ending} {g : S25} {b : Bool} (hg : o.getD z25 = g) (hb : o.isSome = b) (h : GetQ o w' e) : ∃ A c, e = .returned (.tuple #[.agg #[.bool g.f0, .slice A g.f1.length c], .bool b]) ∧ g.f1.length ≤ c ∧ Kd.C k27 w' A g.f1.length g.f1 := by
  subst hg hb
  cases o with
  | none => exact ⟨none, 0, h, Nat.le_refl _, ⟨rfl, Nat.zero_le _, fun h => absurd h (Nat.lt_irrefl 0)⟩⟩
  | some d =>
    obtain ⟨A, c, he, hl, hC⟩ := h
    exact ⟨A, c, he, hl, hC⟩
theorem SkipPlays_walk (W : World) (a0 : Int) (b0 : (Lit.int .u64 a0).wf = true) (A1 : Option Addr) (c1 : Nat) (l1 : List (S25)) (hc1 : l1.length ≤ c1) (hr1 : Kd.C k25 W A1 l1.length l1) (b1 : BL B25 l1 1048576) (x2 : S27) (b2 : B27 x2 1048576) :
    Calls Try.prog 9 #[.int .u64 a0, .slice A1 l1.length c1, .agg #[.bool x2.f0, .int .i64 x2.f1, .string x2.f2]] W fun e W' => e = .returned (.bool true) ∧ Below W.heap.size W W' := by
  have hlens : ∀ d ∈ l1.take 400, d.f1.length ≤ 1048576 := fun d hd => (b1.2 d (List.mem_of_mem_take hd)).2.1
  have hstrs : ∀ d ∈ l1.take 400, 0 < d.f1.length → (keyT d).f2.size ≤ 9223372036854775807 := fun d hd h => by
    have : (keyT d).f2.size ≤ 1048576 := ((b1.2 d (List.mem_of_mem_take hd)).2.2 _ (keyT_mem h)).2.2
    omega
  have hkey : x2.f2.size ≤ 9223372036854775807 := by have : x2.f2.size ≤ 1048576 := b2.2.2; omega
  have hl400 : (l1.take 400).length ≤ 400 := by rw [List.length_take]; omega
  generalize hps : l1.take 400 = ps at *
  have B1 := below_alloc (below_alloc (Below.refl W.heap.size W) (.cells (cellsT x2) 27)) (.cells #[.bool false] 4)
  have z1 : (W.alloc (.cells (cellsT x2) 27)).heap.size = W.heap.size + 1 := by simp
  have K0 := blk_alloc (heap_alloc_new W (.cells (cellsT x2) 27)) (.cells #[.bool false] 4)
  have K2 := heap_alloc_new (W.alloc (.cells (cellsT x2) 27)) (.cells #[.bool false] 4)
  rw [z1] at K2
  have HC0 := Aside0.mk hr1
  have HB1 := Aside0.mk B1
  have HK0 := Aside0.mk K0
  have HK2 := Aside0.mk K2
  have HLENS := Aside0.mk hlens
  have HPS := Aside0.mk hps
  have HSTRS := Aside0.mk hstrs
  have HKEY := Aside0.mk hkey
  clear B1 K0 K2 z1 hr1 b0 b1 b2 hlens hps hstrs hkey
  refine (callsIn_wide (n := 1)).1 (callsIn_of_wp_marks Try.func9 rfl trivial ?_ rfl)
  simp only [Try.ntmps9, List.size_toArray, List.length_cons, List.length_nil, Nat.reduceAdd, Nat.reduceSub, Array.replicate_succ, Array.replicate_zero, List.push_toArray, List.append_toArray, List.nil_append, List.cons_append]
  refine wpIn_wide.2 ?_
  go_wp2_with fail
  refine (lives_T _).mono ?_
  rintro e w1 ⟨rfl, hb1⟩
  have HB2 := Aside0.mk (below_then HB1.out HB1.out.size hb1)
  have HK0b := Aside0.mk (blk_below HK0.out hb1)
  have HK2b := Aside0.mk (blk_below HK2.out hb1)
  clear hb1 HB1 HK0 HK2
  go_wp2_with fail
  refine (early_T A1 c1 l1 w1 (Kd.C_below HC0.out HB2.out) hc1).mono ?_
  rintro e we ⟨A, c, rfl, hce, hCe, hbe⟩
  rw [HPS.out] at hce hCe ⊢
  have HBe := Aside0.mk (below_then HB2.out HB2.out.size hbe)
  have HK0e := Aside0.mk (blk_below HK0b.out hbe)
  have HK2e := Aside0.mk (blk_below HK2b.out hbe)
  have HCe := Aside0.mk hCe
  clear hbe hCe HB2 HK0b HK2b HC0
  go_wp2_with fail
  refine (New_T a0 we).mono ?_
  rintro e w2 ⟨rfl, hb2, H2⟩
  have b3 := below_alloc (below_alloc (Below.refl w2.heap.size w2) (.cells #[.slice none 0 0] 54)) (.cells #[.pointer (some ⟨w2.heap.size, 0, none⟩)] 52)
  have z3 : (w2.alloc (.cells #[.slice none 0 0] 54)).heap.size = w2.heap.size + 1 := by simp
  have kq := blk_alloc (heap_alloc_new w2 (.cells #[.slice none 0 0] 54)) (.cells #[.pointer (some ⟨w2.heap.size, 0, none⟩)] 52)
  have kb := heap_alloc_new (w2.alloc (.cells #[.slice none 0 0] 54)) (.cells #[.pointer (some ⟨w2.heap.size, 0, none⟩)] 52)
  rw [z3] at kb
  have HW2 := Aside0.mk hb2.size
  have HP3 : Aside0 (PlS we ((w2.alloc (.cells #[.slice none 0 0] 54)).alloc (.cells #[.pointer (some ⟨w2.heap.size, 0, none⟩)] 52)) w2.heap.size (fun k => we.heap.size ≤ k ∧ k < w2.heap.size) [] [] []) :=
    ⟨H2.bound.below b3, rfl, fun k hk => ⟨hk.1, Nat.lt_of_lt_of_le hk.2 b3.size⟩, ⟨_, kq, Kd.R_nil _ _ _ _ _, fun h => by omega⟩, below_then hb2 hb2.size b3, kb, fun h => by omega, hb2.size⟩
  clear b3 kq hb2 H2 z3 kb
  go_wp2
  generalize (w2.alloc (.cells #[.slice none 0 0] 54)).alloc (.cells #[.pointer (some ⟨w2.heap.size, 0, none⟩)] 52) = w3 at *
  go_loopg [9] ps.length (fun kx a wr => ∃ (i : Nat) (OA : Nat → Prop) (na : List (Sk.Nd S25)), a = .int .i64 i ∧ i ≤ ps.length ∧ ps.length - i ≤ kx ∧ Aside0 (PlS we wr w2.heap.size OA na (putsV (ps.take i)) (putsV (ps.take i))))
  case atStart => exact ⟨0, _, [], rfl, Nat.zero_le _, by omega, HP3⟩
  case round =>
    obtain ⟨i, OA, na, rfl, hi, hkx, HP⟩ := hrel
    by_cases hlt : i < ps.length
    · have hltz : (i : Int) < (ps.length : Int) := by omega
      have hiz : (0 : Int) ≤ (i : Int) := by omega
      obtain ⟨ad, Ar, cr, eA, x0, x1, hcr, hCr⟩ := at_T25 HCe.out (i : Int) hiz hltz
      subst eA
      rw [rdD_at ps i hlt] at x0 x1 hcr hCr
      simp only [Int.toNat_natCast] at x0 x1
      have hnl : na.length ≤ 400 := by
        have h1 := congrArg List.length HP.out.has
        have h2 := putsV_len (ps.take i)
        rw [List.length_map] at h1
        rw [List.length_take] at h2
        omega
      have HE : Aside0 (putsV (ps.take (i + 1)) = putsV (ps.take i ++ [ps[i]])) := ⟨by rw [List.take_succ_eq_append_getElem hlt]⟩
      have hdl := HLENS.out _ (List.getElem_mem hlt)
      have HDS := HSTRS.out _ (List.getElem_mem hlt)
      have hdn1 : (putsV (ps.take i ++ [ps[i]])).length ≤ 1099511627776 := by
        have h2 := putsV_len (ps.take i ++ [ps[i]])
        rw [List.length_append, List.length_take, List.length_singleton] at h2
        omega
      have hdn2 : ∀ e ∈ putsV (ps.take i ++ [ps[i]]), e.f1.length ≤ 1099511627776 := fun e he => by
        have h1 := (putsV_mem he).1
        have : e ∈ ps := by
          rcases List.mem_append.1 h1 with h | h
          · exact List.mem_of_mem_take h
          · rw [List.mem_singleton.1 h]; exact List.getElem_mem hlt
        have := HLENS.out e this
        omega
      generalize ps[i] = d at *
      have hput := PutAny_T we.heap.size d Ar cr na (ps.take i) _ _ (HP.out.below (below_drew1 (Below.refl wr.heap.size wr))).skl (Kd.C_below hCr (HP.out.below (below_drew1 (Below.refl wr.heap.size wr))).bel) hcr (by omega) (by omega) HP.out.has
      have HPD := Aside0.mk (HP.out.below (below_drew1 (Below.refl wr.heap.size wr)))
      obtain ⟨pb, hpb⟩ : ∃ pb, decide (d.f1.length ≠ 0) = pb := ⟨_, rfl⟩
      obtain ⟨dsn, hdn⟩ : ∃ dsn, putsV (ps.take i ++ [d]) = dsn := ⟨_, rfl⟩
      rw [hpb, hdn] at hput
      rw [hdn] at hdn1 hdn2 HE
      obtain ⟨bz, hbz⟩ : ∃ bz, bz = wrap64 (bytesI dsn) := ⟨_, rfl⟩
      have HPUR := Aside0.mk (fun (w7 : World) (O7 : Nat → Prop) (n7 : List (Sk.Nd S25)) (h : PlS we w7 w2.heap.size O7 n7 dsn (putsV (ps.take i))) => h.put_r hCr hcr (by rw [List.length_take]; omega) (fun e he => HSTRS.out e (List.mem_of_mem_take he)) HDS hpb hdn)
      have HBY := Aside0.mk (fun (w7 : World) (O7 : Nat → Prop) (n7 : List (Sk.Nd S25)) (h : PlS we w7 w2.heap.size O7 n7 dsn dsn) => by
        have h1 := h.byt
        have h2 := h.byr hdn1 hdn2
        rw [← hbz] at h1 h2
        exact And.intro h1 h2)
      have HPUT := Aside0.mk hput
      have HX0 := Aside0.mk x0
      have HX1 := Aside0.mk x1
      have x0 := (Below.cell HP.out.bel (World.block_lt_of_cell? _ _ HX0.out)).trans HX0.out
      have x1 := (Below.cell HP.out.bel (World.block_lt_of_cell? _ _ HX1.out)).trans HX1.out
      have xb := HP.out.boxc
      clear hcr hCr hnl hdl HDS hput hbz hdn hpb hdn1 hdn2
      go_wp2
      refine wp_region_noPanic ?_
      refine start_ (n := 30) (S := fun w' => w'.cell? (ad.add (i * 2)) = some (.bool d.f0) ∧ w'.cell? ⟨(ad.add (i * 2)).block, (ad.add (i * 2)).off + 1, none⟩ = some (.slice Ar d.f1.length cr) ∧ w'.cell? ⟨w2.heap.size + 1, 0, none⟩ = some (.pointer (some ⟨w2.heap.size, 0, none⟩))) (ds := []) #[false, false, false, false, false, false, false, false, false, false, false, false, false, false, false, false, false, false, false, false, false, false, false, false, false, false, false, false, false, false] (by kernel_rfl) rfl rfl ⟨(by simpa using x0), (by simpa using x1), (by simpa using xb)⟩ (fun hHeld => ?_)
      refine pure_ (i := 0) (N := some 30) (v := ?_) (a' := ?_) #[true, false, false, false, false, false, false, false, false, false, false, false, false, false, false, false, false, false, false, false, false, false, false, false, false, false, false, false, false, false] rfl rfl (by kernel_rfl) (fun _ _ _ h => h) (Or.inl ⟨by rfl, ?_⟩) ?_ ?_
      rotate_left
      · intro w'
        go_simp
        with_reducible rfl
      rotate_left
      · simp only [Act.put, List.setIfInBounds_toArray, List.set_cons_zero, List.set_cons_succ, i64_w, i32_w]
        rfl
      refine pure_ (i := 1) (N := some 31) (v := ?_) (a' := ?_) #[true, true, false, false, false, false, false, false, false, false, false, false, false, false, false, false, false, false, false, false, false, false, false, false, false, false, false, false, false, false] rfl rfl (by kernel_rfl) (fun _ _ _ h => h) (Or.inl ⟨by rfl, ?_⟩) ?_ ?_
      rotate_left
      · intro w'
        go_simp
        with_reducible rfl
      rotate_left
      · simp only [Act.put, List.setIfInBounds_toArray, List.set_cons_zero, List.set_cons_succ, i64_w, i32_w]
        rfl
      refine pure_ (i := 2) (N := some 32) (v := ?_) (a' := ?_) #[true, true, true, false, false, false, false, false, false, false, false, false, false, false, false, false, false, false, false, false, false, false, false, false, false, false, false, false, false, false] rfl rfl (by kernel_rfl) (fun _ _ _ h => h) (Or.inl ⟨by rfl, ?_⟩) ?_ ?_
      rotate_left
      · intro w'
        go_simp
        with_reducible rfl
      rotate_left
      · simp only [Act.put, List.setIfInBounds_toArray, List.set_cons_zero, List.set_cons_succ, i64_w, i32_w]
        rfl
      refine pure_ (i := 3) (N := some 33) (v := ?_) (a' := ?_) #[true, true, true, true, false, false, false, false, false, false, false, false, false, false, false, false, false, false, false, false, false, false, false, false, false, false, false, false, false, false] rfl rfl (by kernel_rfl) (fun _ _ _ h => h) (Or.inl ⟨by rfl, ?_⟩) ?_ ?_
      rotate_left
      · intro w'
        go_simp
        with_reducible rfl
      rotate_left
      · simp only [Act.put, List.setIfInBounds_toArray, List.set_cons_zero, List.set_cons_succ, i64_w, i32_w]
        rfl
      refine pure_ (i := 7) (N := some 37) (v := ?_) (a' := ?_) #[true, true, true, true, false, false, false, true, false, false, false, false, false, false, false, false, false, false, false, false, false, false, false, false, false, false, false, false, false, false] rfl rfl (by kernel_rfl) (fun _ _ _ h => h) (Or.inl ⟨by rfl, ?_⟩) ?_ ?_
      rotate_left
      · intro w'
        go_simp
        with_reducible rfl
      rotate_left
      · simp only [Act.put, List.setIfInBounds_toArray, List.set_cons_zero, List.set_cons_succ, i64_w, i32_w]
        rfl
      refine pure_ (i := 8) (N := some 38) (v := ?_) (a' := ?_) #[true, true, true, true, false, false, false, true, true, false, false, false, false, false, false, false, false, false, false, false, false, false, false, false, false, false, false, false, false, false] rfl rfl (by kernel_rfl) (fun _ _ _ h => h) (Or.inl ⟨by rfl, ?_⟩) ?_ ?_
      rotate_left
      · intro w'
        go_simp
        with_reducible rfl
      rotate_left
      · simp only [Act.put, List.setIfInBounds_toArray, List.set_cons_zero, List.set_cons_succ, i64_w, i32_w]
        rfl
      refine pure_ (i := 9) (N := some 39) (v := ?_) (a' := ?_) #[true, true, true, true, false, false, false, true, true, true, false, false, false, false, false, false, false, false, false, false, false, false, false, false, false, false, false, false, false, false] rfl rfl (by kernel_rfl) (fun _ _ _ h => h) (Or.inl ⟨by rfl, ?_⟩) ?_ ?_
      rotate_left
      · intro w'
        go_simp
        with_reducible rfl
      rotate_left
      · simp only [Act.put, List.setIfInBounds_toArray, List.set_cons_zero, List.set_cons_succ, i64_w, i32_w]
        rfl
      refine take_ (i := 4) (N := some 34) (v := ?_) (a' := ?_) #[true, true, true, true, true, false, false, true, true, true, false, false, false, false, false, false, false, false, false, false, false, false, false, false, false, false, false, false, false, false] rfl rfl (by kernel_rfl) (fun _ _ _ h => h) (Or.inl ⟨by rfl, ?_⟩) hHeld ?_ ?_
      rotate_left
      · rintro w' ⟨s0, s1, s2⟩
        go_simp
        with_reducible rfl
      rotate_left
      · simp only [Act.put, List.setIfInBounds_toArray, List.set_cons_zero, List.set_cons_succ, i64_w, i32_w]
        rfl
      refine take_ (i := 6) (N := some 36) (v := ?_) (a' := ?_) #[true, true, true, true, true, false, true, true, true, true, false, false, false, false, false, false, false, false, false, false, false, false, false, false, false, false, false, false, false, false] rfl rfl (by kernel_rfl) (fun _ _ _ h => h) (Or.inl ⟨by rfl, ?_⟩) hHeld ?_ ?_
      rotate_left
      · rintro w' ⟨s0, s1, s2⟩
        go_simp
        with_reducible rfl
      rotate_left
      · simp only [Act.put, List.setIfInBounds_toArray, List.set_cons_zero, List.set_cons_succ, i64_w, i32_w]
        rfl
      refine take_ (i := 10) (N := some 40) (v := ?_) (a' := ?_) #[true, true, true, true, true, false, true, true, true, true, true, false, false, false, false, false, false, false, false, false, false, false, false, false, false, false, false, false, false, false] rfl rfl (by kernel_rfl) (fun _ _ _ h => h) (Or.inl ⟨by rfl, ?_⟩) hHeld ?_ ?_
      rotate_left
      · rintro w' ⟨s0, s1, s2⟩
        go_simp
        with_reducible rfl
      rotate_left
      · simp only [Act.put, List.setIfInBounds_toArray, List.set_cons_zero, List.set_cons_succ, i64_w, i32_w]
        rfl
      refine one_ (i := 5) (N := some 35) #[true, true, true, true, true, true, true, true, true, true, true, false, false, false, false, false, false, false, false, false, false, false, false, false, false, false, false, false, false, false] rfl rfl (by kernel_rfl) (by decide) (fun K hK => ?_)
      refine goes_ Try.func16 (by kernel_rfl) rfl #[.pointer (some ⟨we.heap.size, 0, none⟩), .agg #[.bool d.f0, .slice Ar d.f1.length cr]] (by rfl) rfl rfl (by simp only [List.map_toArray, List.map_cons, List.map_nil]; rfl) ?_
      with_reducible refine (HPUT.out).mono ?_
      rintro e w7 ⟨rfl, hF, ns', H', hd'⟩
      refine ⟨_, rfl, ?_⟩
      have HP7 := Aside0.mk (HPD.out.put_a hF H' hd')
      clear hF H' hd'
      have s0_ := (Below.cell HP7.out.bel (World.block_lt_of_cell? _ _ HX0.out)).trans HX0.out
      have s1_ := (Below.cell HP7.out.bel (World.block_lt_of_cell? _ _ HX1.out)).trans HX1.out
      have s2_ := HP7.out.boxc
      refine hK.out _ _ ⟨s0_, s1_, s2_⟩ (fun hHeld => ?_)
      clear hK K
      refine norm_ (a' := ?_) ?_ ?_
      rotate_left
      · show Act.put _ (some 35) _ = _
        simp only [Act.put, List.setIfInBounds_toArray, List.set_cons_zero, List.set_cons_succ, i64_w, i32_w]
        rfl
      refine one_ (i := 11) (N := some 41) #[true, true, true, true, true, true, true, true, true, true, true, true, false, false, false, false, false, false, false, false, false, false, false, false, false, false, false, false, false, false] rfl rfl (by kernel_rfl) (by decide) (fun K hK => ?_)
      clear s0_ s1_ s2_
      refine goes_ Try.func28 (by kernel_rfl) rfl #[.pointer (some ⟨w2.heap.size, 0, none⟩), .agg #[.bool d.f0, .slice Ar d.f1.length cr]] (by rfl) rfl rfl (by simp only [List.map_toArray, List.map_cons, List.map_nil]; rfl) ?_
      with_reducible refine (HPUR.out w7 _ _ HP7.out).mono ?_
      rintro e w8 ⟨rfl, hF, hQ8⟩
      refine ⟨_, rfl, ?_⟩
      have HP8 := Aside0.mk (HP7.out.put_b hF hQ8)
      clear hF hQ8 HP7
      have HL8 := Aside0.mk HP8.out.len
      have HB8 := Aside0.mk (HBY.out w8 _ _ HP8.out).1
      have HR8 := Aside0.mk (HBY.out w8 _ _ HP8.out).2
      obtain ⟨A9, c9, hq9c, _⟩ := HP8.out.ref.reads
      have hq9 : w8.cell? ⟨w2.heap.size, 0, none⟩ = some (.slice A9 dsn.length c9) := (blk_cell hq9c 0).trans rfl
      clear hq9c
      have s0_ := (Below.cell HP8.out.bel (World.block_lt_of_cell? _ _ HX0.out)).trans HX0.out
      have s1_ := (Below.cell HP8.out.bel (World.block_lt_of_cell? _ _ HX1.out)).trans HX1.out
      have s2_ := HP8.out.boxc
      refine hK.out _ _ ⟨s0_, s1_, s2_⟩ (fun hHeld => ?_)
      clear hK K
      refine norm_ (a' := ?_) ?_ ?_
      rotate_left
      · show Act.put _ (some 41) _ = _
        simp only [Act.put, List.setIfInBounds_toArray, List.set_cons_zero, List.set_cons_succ, i64_w, i32_w]
        rfl
      refine pure_ (i := 12) (N := some 42) (v := ?_) (a' := ?_) #[true, true, true, true, true, true, true, true, true, true, true, true, true, false, false, false, false, false, false, false, false, false, false, false, false, false, false, false, false, false] rfl rfl (by kernel_rfl) (fun _ _ _ h => h) (Or.inl ⟨by rfl, ?_⟩) ?_ ?_
      rotate_left
      · intro w'
        go_simp
        with_reducible rfl
      rotate_left
      · simp only [Act.put, List.setIfInBounds_toArray, List.set_cons_zero, List.set_cons_succ, i64_w, i32_w]
        rfl
      refine pure_ (i := 13) (N := some 43) (v := ?_) (a' := ?_) #[true, true, true, true, true, true, true, true, true, true, true, true, true, true, false, false, false, false, false, false, false, false, false, false, false, false, false, false, false, false] rfl rfl (by kernel_rfl) (fun _ _ _ h => h) (Or.inl ⟨by rfl, ?_⟩) ?_ ?_
      rotate_left
      · intro w'
        go_simp
        with_reducible rfl
      rotate_left
      · simp only [Act.put, List.setIfInBounds_toArray, List.set_cons_zero, List.set_cons_succ, i64_w, i32_w]
        rfl
      refine pure_ (i := 14) (N := some 44) (v := ?_) (a' := ?_) #[true, true, true, true, true, true, true, true, true, true, true, true, true, true, true, false, false, false, false, false, false, false, false, false, false, false, false, false, false, false] rfl rfl (by kernel_rfl) (fun _ _ _ h => h) (Or.inl ⟨by rfl, ?_⟩) ?_ ?_
      rotate_left
      · intro w'
        go_simp
        with_reducible rfl
      rotate_left
      · simp only [Act.put, List.setIfInBounds_toArray, List.set_cons_zero, List.set_cons_succ, i64_w, i32_w]
        rfl
      refine take_ (i := 16) (N := some 46) (v := ?_) (a' := ?_) #[true, true, true, true, true, true, true, true, true, true, true, true, true, true, true, false, true, false, false, false, false, false, false, false, false, false, false, false, false, false] rfl rfl (by kernel_rfl) (fun _ _ _ h => h) (Or.inl ⟨by rfl, ?_⟩) hHeld ?_ ?_
      rotate_left
      · rintro w' ⟨s0, s1, s2⟩
        go_simp
        with_reducible rfl
      rotate_left
      · simp only [Act.put, List.setIfInBounds_toArray, List.set_cons_zero, List.set_cons_succ, i64_w, i32_w]
        rfl
      refine pure_ (i := 17) (N := some 47) (v := ?_) (a' := ?_) #[true, true, true, true, true, true, true, true, true, true, true, true, true, true, true, false, true, true, false, false, false, false, false, false, false, false, false, false, false, false] rfl rfl (by kernel_rfl) (fun _ _ _ h => h) (Or.inl ⟨by rfl, ?_⟩) ?_ ?_
      rotate_left
      · intro w'
        go_simp
        with_reducible rfl
      rotate_left
      · simp only [Act.put, List.setIfInBounds_toArray, List.set_cons_zero, List.set_cons_succ, i64_w, i32_w]
        rfl
      refine pure_ (i := 18) (N := some 48) (v := ?_) (a' := ?_) #[true, true, true, true, true, true, true, true, true, true, true, true, true, true, true, false, true, true, true, false, false, false, false, false, false, false, false, false, false, false] rfl rfl (by kernel_rfl) (fun _ _ _ h => h) (Or.inl ⟨by rfl, ?_⟩) ?_ ?_
      rotate_left
      · intro w'
        go_simp
        with_reducible rfl
      rotate_left
      · simp only [Act.put, List.setIfInBounds_toArray, List.set_cons_zero, List.set_cons_succ, i64_w, i32_w]
        rfl
      refine join_ (σ := Unit) 9 #[true, true, true, true, true, true, true, true, true, true, true, true, true, true, true, true, true, true, true, true, true, false, false, false, false, false, false, false, false, false] (fun s_ => [(45, .int .i64 (dsn.length : Nat)), (49, .slice A9 dsn.length c9), (50, .int .i64 (dsn.length : Nat))]) (fun s_ w' => w' = w8 ∧ (w'.cell? (ad.add (i * 2)) = some (.bool d.f0) ∧ w'.cell? ⟨(ad.add (i * 2)).block, (ad.add (i * 2)).off + 1, none⟩ = some (.slice Ar d.f1.length cr) ∧ w'.cell? ⟨w2.heap.size + 1, 0, none⟩ = some (.pointer (some ⟨w2.heap.size, 0, none⟩)))) ?_ ?_
      rotate_left
      · intro hCont
        refine two_ (i := 15) (j := 19) (Ni := some 45) (Nj := some 49) #[true, true, true, true, true, true, true, true, true, true, true, true, true, true, true, true, true, true, true, false, false, false, false, false, false, false, false, false, false, false] #[true, true, true, true, true, true, true, true, true, true, true, true, true, true, true, false, true, true, true, true, false, false, false, false, false, false, false, false, false, false] rfl rfl rfl rfl (by kernel_rfl) (by decide) (by decide) (fun K hK => ?_) (fun K hK => ?_)
        · skip
          refine goes_ Try.func29 (by kernel_rfl) rfl #[.pointer (some ⟨we.heap.size, 0, none⟩)] (by rfl) rfl rfl (by simp only [List.map_toArray, List.map_cons, List.map_nil]; rfl) ?_
          with_reducible refine (HL8.out).mono ?_
          rintro e w_ ⟨rfl, rfl⟩
          refine ⟨_, rfl, ?_⟩
          refine hK.out _ _ ⟨hHeld.1, hHeld.2.1, hHeld.2.2⟩ (fun hHeld => ?_)
          clear hK K
          refine norm_ (a' := ?_) ?_ ?_
          rotate_left
          · show Act.put _ (some 45) _ = _
            simp only [Act.put, List.setIfInBounds_toArray, List.set_cons_zero, List.set_cons_succ, i64_w, i32_w]
            rfl
          refine one_ (i := 19) (N := some 49) #[true, true, true, true, true, true, true, true, true, true, true, true, true, true, true, true, true, true, true, true, false, false, false, false, false, false, false, false, false, false] rfl rfl (by kernel_rfl) (by decide) (fun K hK => ?_)
          refine value_ (w1 := ?_) (v := ?_) (by rfl) rfl ?_ ?_
          rotate_left 2
          · go_simp
            constructor
            · rfl
            · rfl
          refine hK.out _ _ ⟨hHeld.1, hHeld.2.1, hHeld.2.2⟩ (fun hHeld => ?_)
          clear hK K
          refine norm_ (a' := ?_) ?_ ?_
          rotate_left
          · show Act.put _ (some 49) _ = _
            simp only [Act.put, List.setIfInBounds_toArray, List.set_cons_zero, List.set_cons_succ, i64_w, i32_w]
            rfl
          refine pure_ (i := 20) (N := some 50) (v := ?_) (a' := ?_) #[true, true, true, true, true, true, true, true, true, true, true, true, true, true, true, true, true, true, true, true, true, false, false, false, false, false, false, false, false, false] rfl rfl (by kernel_rfl) (fun _ _ _ h => h) (Or.inl ⟨by rfl, ?_⟩) ?_ ?_
          rotate_left
          · intro w'
            go_simp
            with_reducible rfl
          rotate_left
          · simp only [Act.put, List.setIfInBounds_toArray, List.set_cons_zero, List.set_cons_succ, i64_w, i32_w]
            rfl
          exact norm_ (by simp only [putAll, Act.put, List.setIfInBounds_toArray, List.set_cons_zero, List.set_cons_succ]) (hCont () _ ⟨rfl, hHeld⟩)
        · skip
          refine value_ (w1 := ?_) (v := ?_) (by rfl) rfl ?_ ?_
          rotate_left 2
          · go_simp
            constructor
            · rfl
            · rfl
          refine hK.out _ _ ⟨hHeld.1, hHeld.2.1, hHeld.2.2⟩ (fun hHeld => ?_)
          clear hK K
          refine norm_ (a' := ?_) ?_ ?_
          rotate_left
          · show Act.put _ (some 49) _ = _
            simp only [Act.put, List.setIfInBounds_toArray, List.set_cons_zero, List.set_cons_succ, i64_w, i32_w]
            rfl
          refine pure_ (i := 20) (N := some 50) (v := ?_) (a' := ?_) #[true, true, true, true, true, true, true, true, true, true, true, true, true, true, true, false, true, true, true, true, true, false, false, false, false, false, false, false, false, false] rfl rfl (by kernel_rfl) (fun _ _ _ h => h) (Or.inl ⟨by rfl, ?_⟩) ?_ ?_
          rotate_left
          · intro w'
            go_simp
            with_reducible rfl
          rotate_left
          · simp only [Act.put, List.setIfInBounds_toArray, List.set_cons_zero, List.set_cons_succ, i64_w, i32_w]
            rfl
          refine one_ (i := 15) (N := some 45) #[true, true, true, true, true, true, true, true, true, true, true, true, true, true, true, true, true, true, true, true, true, false, false, false, false, false, false, false, false, false] rfl rfl (by kernel_rfl) (by decide) (fun K hK => ?_)
          refine goes_ Try.func29 (by kernel_rfl) rfl #[.pointer (some ⟨we.heap.size, 0, none⟩)] (by rfl) rfl rfl (by simp only [List.map_toArray, List.map_cons, List.map_nil]; rfl) ?_
          with_reducible refine (HL8.out).mono ?_
          rintro e w_ ⟨rfl, rfl⟩
          refine ⟨_, rfl, ?_⟩
          refine hK.out _ _ ⟨hHeld.1, hHeld.2.1, hHeld.2.2⟩ (fun hHeld => ?_)
          clear hK K
          refine norm_ (a' := ?_) ?_ ?_
          rotate_left
          · show Act.put _ (some 45) _ = _
            simp only [Act.put, List.setIfInBounds_toArray, List.set_cons_zero, List.set_cons_succ, i64_w, i32_w]
            rfl
          exact norm_ (by simp only [putAll, Act.put, List.setIfInBounds_toArray, List.set_cons_zero, List.set_cons_succ]) (hCont () _ ⟨rfl, hHeld⟩)
      rintro s_ w_ ⟨rfl, hHeld⟩
      refine norm_ (a' := ?_) ?_ ?_
      rotate_left
      · simp only [putAll, Act.put, List.setIfInBounds_toArray, List.set_cons_zero, List.set_cons_succ]
        rfl
      refine pure_ (i := 21) (N := some 51) (v := ?_) (a' := ?_) #[true, true, true, true, true, true, true, true, true, true, true, true, true, true, true, true, true, true, true, true, true, true, false, false, false, false, false, false, false, false] rfl rfl (by kernel_rfl) (fun _ _ _ h => h) (Or.inl ⟨by rfl, ?_⟩) ?_ ?_
      rotate_left
      · intro w'
        go_simp
        with_reducible rfl
      rotate_left
      · simp only [Act.put, List.setIfInBounds_toArray, List.set_cons_zero, List.set_cons_succ, i64_w, i32_w]
        rfl
      refine pure_ (i := 22) (N := some 52) (v := ?_) (a' := ?_) #[true, true, true, true, true, true, true, true, true, true, true, true, true, true, true, true, true, true, true, true, true, true, true, false, false, false, false, false, false, false] rfl rfl (by kernel_rfl) (fun _ _ _ h => h) (Or.inl ⟨by rfl, ?_⟩) ?_ ?_
      rotate_left
      · intro w'
        go_simp
        with_reducible rfl
      rotate_left
      · simp only [Act.put, List.setIfInBounds_toArray, List.set_cons_zero, List.set_cons_succ, i64_w, i32_w]
        rfl
      refine pure_ (i := 23) (N := some 53) (v := ?_) (a' := ?_) #[true, true, true, true, true, true, true, true, true, true, true, true, true, true, true, true, true, true, true, true, true, true, true, true, false, false, false, false, false, false] rfl rfl (by kernel_rfl) (fun _ _ _ h => h) (Or.inl ⟨by rfl, ?_⟩) ?_ ?_
      rotate_left
      · intro w'
        go_simp
        with_reducible rfl
      rotate_left
      · simp only [Act.put, List.setIfInBounds_toArray, List.set_cons_zero, List.set_cons_succ, i64_w, i32_w]
        rfl
      refine pure_ (i := 24) (N := some 54) (v := ?_) (a' := ?_) #[true, true, true, true, true, true, true, true, true, true, true, true, true, true, true, true, true, true, true, true, true, true, true, true, true, false, false, false, false, false] rfl rfl (by kernel_rfl) (fun _ _ _ h => h) (Or.inl ⟨by rfl, ?_⟩) ?_ ?_
      rotate_left
      · intro w'
        go_simp
        with_reducible rfl
      rotate_left
      · simp only [Act.put, List.setIfInBounds_toArray, List.set_cons_zero, List.set_cons_succ, i64_w, i32_w]
        rfl
      refine take_ (i := 26) (N := some 56) (v := ?_) (a' := ?_) #[true, true, true, true, true, true, true, true, true, true, true, true, true, true, true, true, true, true, true, true, true, true, true, true, true, false, true, false, false, false] rfl rfl (by kernel_rfl) (fun _ _ _ h => h) (Or.inl ⟨by rfl, ?_⟩) hHeld ?_ ?_
      rotate_left
      · rintro w' ⟨s0, s1, s2⟩
        go_simp
        with_reducible rfl
      rotate_left
      · simp only [Act.put, List.setIfInBounds_toArray, List.set_cons_zero, List.set_cons_succ, i64_w, i32_w]
        rfl
      refine one_ (i := 25) (N := some 55) #[true, true, true, true, true, true, true, true, true, true, true, true, true, true, true, true, true, true, true, true, true, true, true, true, true, true, true, false, false, false] rfl rfl (by kernel_rfl) (by decide) (fun K hK => ?_)
      refine goes_ Try.func30 (by kernel_rfl) rfl #[.pointer (some ⟨we.heap.size, 0, none⟩)] (by rfl) rfl rfl (by simp only [List.map_toArray, List.map_cons, List.map_nil]; rfl) ?_
      with_reducible refine (HB8.out).mono ?_
      rintro e w_ ⟨rfl, rfl⟩
      refine ⟨_, rfl, ?_⟩
      refine hK.out _ _ ⟨hHeld.1, hHeld.2.1, hHeld.2.2⟩ (fun hHeld => ?_)
      clear hK K
      refine norm_ (a' := ?_) ?_ ?_
      rotate_left
      · show Act.put _ (some 55) _ = _
        simp only [Act.put, List.setIfInBounds_toArray, List.set_cons_zero, List.set_cons_succ, i64_w, i32_w]
        rfl
      refine one_ (i := 27) (N := some 57) #[true, true, true, true, true, true, true, true, true, true, true, true, true, true, true, true, true, true, true, true, true, true, true, true, true, true, true, true, false, false] rfl rfl (by kernel_rfl) (by decide) (fun K hK => ?_)
      refine goes_ Try.func31 (by kernel_rfl) rfl #[.pointer (some ⟨w2.heap.size, 0, none⟩)] (by rfl) rfl rfl (by simp only [List.map_toArray, List.map_cons, List.map_nil]; rfl) ?_
      with_reducible refine (HR8.out).mono ?_
      rintro e w_ ⟨rfl, rfl⟩
      refine ⟨_, rfl, ?_⟩
      refine hK.out _ _ ⟨hHeld.1, hHeld.2.1, hHeld.2.2⟩ (fun hHeld => ?_)
      clear hK K
      refine norm_ (a' := ?_) ?_ ?_
      rotate_left
      · show Act.put _ (some 57) _ = _
        simp only [Act.put, List.setIfInBounds_toArray, List.set_cons_zero, List.set_cons_succ, i64_w, i32_w]
        rfl
      refine pure_ (i := 28) (N := some 58) (v := ?_) (a' := ?_) #[true, true, true, true, true, true, true, true, true, true, true, true, true, true, true, true, true, true, true, true, true, true, true, true, true, true, true, true, true, false] rfl rfl (by kernel_rfl) (fun _ _ _ h => h) (Or.inl ⟨by rfl, ?_⟩) ?_ ?_
      rotate_left
      · intro w'
        go_simp
        with_reducible rfl
      rotate_left
      · simp only [Act.put, List.setIfInBounds_toArray, List.set_cons_zero, List.set_cons_succ, i64_w, i32_w]
        rfl
      refine pure_ (i := 29) (N := some 59) (v := ?_) (a' := ?_) #[true, true, true, true, true, true, true, true, true, true, true, true, true, true, true, true, true, true, true, true, true, true, true, true, true, true, true, true, true, true] rfl rfl (by kernel_rfl) (fun _ _ _ h => h) (Or.inl ⟨by rfl, ?_⟩) ?_ ?_
      rotate_left
      · intro w'
        go_simp
        with_reducible rfl
      rotate_left
      · simp only [Act.put, List.setIfInBounds_toArray, List.set_cons_zero, List.set_cons_succ, i64_w, i32_w]
        rfl
      refine done_ (by kernel_rfl) ?_

      refine NoPanic.normal ?_
      go_wp2
      go_roundg (ps.length - (i + 1))
      case measure => omega
      case rel => exact ⟨i + 1, _, _, by go_num, by omega, by omega, by rw [HE.out]; exact HP8⟩
    · obtain rfl : ps.length = i := by omega
      have hltz : ¬ (ps.length : Int) < (ps.length : Int) := by omega
      have hPP := HP.out
      rw [List.take_length] at hPP
      have HPP := Aside0.mk hPP
      clear HP hPP
      have hkb := blk_below HK0e.out HPP.out.bel
      have k0 := (blk_cell hkb 0).trans rfl
      have k1 := (blk_cell hkb 1).trans rfl
      have k2 := (blk_cell hkb 2).trans rfl
      have hga := Get_T we.heap.size x2 na OA wr HPP.out.skl (fun n hn => by
        have : n.d ∈ na.map (·.d) := List.mem_map_of_mem hn
        rw [HPP.out.has] at this
        have := HLENS.out _ (putsV_mem this).1
        omega)
      rw [HPP.out.has] at hga
      clear hkb
      go_wp2_with fail
      refine hga.mono ?_
      rintro e w4 ⟨hb4, hG⟩
      obtain ⟨g, hg1⟩ : ∃ g, (getV (putsV ps) x2).getD z25 = g := ⟨_, rfl⟩
      obtain ⟨gb, hg2⟩ : ∃ gb, (getV (putsV ps) x2).isSome = gb := ⟨_, rfl⟩
      obtain ⟨Av, cv, rfl, hcv, hCv⟩ := getR_flat hg1 hg2 hG
      have HG1 := Aside0.mk hg1
      have HG2 := Aside0.mk hg2
      clear hg1 hg2
      have HP4 := Aside0.mk (HPP.out.below hb4)
      have HWR := Aside0.mk HPP.out.bel.size
      have HS4 := Aside0.mk hb4.size
      clear hga hG hb4 k0 k1 k2 HPP
      obtain ⟨Aq0, cq0, hqc0, hcq0, hCq0, hRq0⟩ := HP4.out.ref.reads
      have hb5 := below_alloc (Below.refl w4.heap.size w4) (.cells #[.bool g.f0, .slice Av g.f1.length cv] 25)
      have hgr := Get_R w2.heap.size x2 (putsV ps) Aq0 cq0 _ (blk_below hqc0 hb5) (oldK_C (Kd.C_below hCq0 hb5) (below_then HP4.out.bel HP4.out.bel.size hb5)) hcq0 (Nat.le_trans (putsV_len ps) (by omega)) (fun e he => (putsV_mem he).2) (fun e he => HSTRS.out e (putsV_mem he).1 (Nat.pos_of_ne_zero (putsV_mem he).2)) HKEY.out
      have hkb := blk_below (blk_below HK0e.out HP4.out.bel) hb5
      have k0 := (blk_cell hkb 0).trans rfl
      have k1 := (blk_cell hkb 1).trans rfl
      have k2 := (blk_cell hkb 2).trans rfl
      have xb := (blk_cell (blk_below HP4.out.box hb5) 0).trans rfl
      have hz5 : (w4.alloc (.cells #[.bool g.f0, .slice Av g.f1.length cv] 25)).heap.size = w4.heap.size + 1 := by simp
      have hd5 := heap_alloc_new w4 (.cells #[.bool g.f0, .slice Av g.f1.length cv] 25)
      have HP5 := Aside0.mk (HP4.out.below hb5)
      have HC5 := Aside0.mk (And.intro hcv (Kd.C_below hCv hb5))
      have HD5 := Aside0.mk hd5
      have HZ5 := Aside0.mk hz5
      clear hqc0 hcq0 hCq0 hRq0 hkb hcv hCv hd5 hz5 hb5 HP4
      go_wp2_with fail
      clear k0 k1 k2 xb
      generalize (w4.alloc (.cells #[.bool g.f0, .slice Av g.f1.length cv] 25)) = w5 at *
      refine hgr.mono ?_
      rintro e w6 ⟨hb6, hG⟩
      obtain ⟨Ae, ce, rfl, hce', hCe'⟩ := getQ_flat HG1.out HG2.out hG
      have hb7 := below_alloc (Below.refl w6.heap.size w6) (.cells #[.bool g.f0, .slice Ae g.f1.length ce] 25)
      have hz7 : (w6.alloc (.cells #[.bool g.f0, .slice Ae g.f1.length ce] 25)).heap.size = w6.heap.size + 1 := by simp
      have hd7 := heap_alloc_new w6 (.cells #[.bool g.f0, .slice Ae g.f1.length ce] 25)
      have hd5 := blk_below (blk_below HD5.out hb6) hb7
      have hsame := same_T g.f0 Av cv g.f1 g.f0 Ae ce g.f1 _ (Kd.C_below (Kd.C_below HC5.out.2 hb6) hb7) HC5.out.1 (Kd.C_below hCe' hb7) hce'
      rw [sameV_self, beq_self_eq_true, Bool.and_self] at hsame
      have d0 := (blk_cell hd5 0).trans rfl
      have d1 := (blk_cell hd5 1).trans rfl
      have e0 := (blk_cell hd7 0).trans rfl
      have e1 := (blk_cell hd7 1).trans rfl
      have HP7 := Aside0.mk ((HP5.out.below hb6).below hb7)
      have HZ7 := Aside0.mk hz7
      have HS6 := Aside0.mk hb6.size
      clear hgr hG hb6 hb7 hz7 hd7 hd5 hce' hCe' HP5 HD5
      go_wp2_with fail
      clear d0 d1 e0 e1
      generalize (w6.alloc (.cells #[.bool g.f0, .slice Ae g.f1.length ce] 25)) = w7 at *
      refine hsame.mono ?_
      rintro e w8 ⟨rfl, hb8⟩
      have HP8 := Aside0.mk (HP7.out.below hb8)
      have HS8 := Aside0.mk hb8.size
      clear hsame hb8 HP7
      go_wp2_with fail
      have hb9 := below_alloc (Below.refl w8.heap.size w8) (.cells #[.int .i64 0] 3)
      have z9 : (w8.alloc (.cells #[.int .i64 0] 3)).heap.size = w8.heap.size + 1 := by simp
      have hn9 := heap_alloc_new w8 (.cells #[.int .i64 0] 3)
      have HP9 := Aside0.mk (HP8.out.below hb9)
      have HN9 := Aside0.mk hn9
      have HZ9 := Aside0.mk z9
      clear hb9 z9 hn9
      generalize (w8.alloc (.cells #[.int .i64 0] 3)) = w9 at *
      refine (All_T we.heap.size w9).mono ?_
      rintro e w10 ⟨rfl, hw10⟩
      have b10 : Below w9.heap.size w9 w10 := by rw [hw10]; exact below_alloc (Below.refl _ _) _
      have kg : w10.heap[w9.heap.size]? = some (.cells #[.pointer (some ⟨we.heap.size, 0, none⟩)] 66 (0, 0)) := by rw [hw10]; exact heap_alloc_new w9 _
      have HZ10 : Aside0 (w10.heap.size = w9.heap.size + 1) := ⟨by rw [hw10]; simp⟩
      have HP10 := Aside0.mk (HP9.out.below b10)
      have HN10 := Aside0.mk (blk_below HN9.out b10)
      have HOA8 : Aside0 (∀ k, OA k → k < w8.heap.size) := ⟨fun k hk => (HP8.out.own k hk).2⟩
      have HQL : Aside0 (w2.heap.size + 1 < w8.heap.size) := ⟨(Array.getElem?_eq_some_iff.1 HP8.out.box).1⟩
      have HB10 : Aside0 (we.heap.size ≤ w8.heap.size) := ⟨HP8.out.bel.size⟩
      obtain ⟨Aq, cq, hqc, hcq, hCq, hRq⟩ := HP10.out.ref.reads
      have hgiv := given_G we.heap.size w9.heap.size [] na OA (fun k => k = w8.heap.size ∨ k = w10.heap.size ∨ k = w10.heap.size + 1) _ _ w10 HP10.out.skl.m HP10.out.skl.pos (fun n hn => by
          have : n.d ∈ na.map (·.d) := List.mem_map_of_mem hn
          rw [HP10.out.has] at this
          have := HLENS.out _ (putsV_mem this).1
          omega) kg (fun h => by have := HZ9.out; have := HZ10.out; omega)
        (fun k hk => by have := HOA8.out k hk; have := HZ9.out; have := HZ10.out; omega) (fun k hk => by have := HZ9.out; have := HZ10.out; omega)
      rw [HP10.out.has] at hgiv
      have HGIV := Aside0.mk hgiv
      have HQC := Aside0.mk hqc
      have HRQ := Aside0.mk hRq
      have HCQ := Aside0.mk hcq
      clear hgiv b10 kg hw10 hqc hcq hCq hRq HP9 HN9 HP8
      go_wp2
      refine wp_rangeH (gf := 56) (lb := #[.pointer (some ⟨w9.heap.size, 0, none⟩)]) rfl (enters_of Try.func56 (by kernel_rfl) rfl)
        HGIV.out (.inr (.inl rfl)) (.inr (.inr rfl)) (fun _ => rfl)
        (fun pre V => V.heap[w8.heap.size]? = some (.cells #[.int .i64 pre.length] 3 (0, 0)) ∧ V.heap[w2.heap.size + 1]? = some (.cells #[.pointer (some ⟨w2.heap.size, 0, none⟩)] 52 (0, 0)) ∧ V.heap[w2.heap.size]? = some (.cells #[.slice Aq (putsV ps).length cq] 54 (0, 0)) ∧ Kd.R (oldK k25 we) 25 V we.heap.size (fun k => ¬ OA k ∧ k ≠ w2.heap.size) (.slice Aq (putsV ps).length cq) (putsV ps) ∧ Below we.heap.size we V)
        (fun cd pre V => False)
        ?hI (fun cd s A B row h _ _ => h) ⟨HN10.out, HP10.out.box, HQC.out, HRQ.out, HP10.out.bel⟩ ?round ?done (fun cd pre V _ h _ => h.elim)
      case hI =>
        rintro s A B row ⟨h1, h2, h3, h4, h5⟩ hg hr
        exact ⟨ownFrom_blk () A B row h1 hg hr, ownFrom_blk () A B row h2 hg hr, ownFrom_blk () A B row h3 hg hr, ownFrom_RK () A B row h4 hg hr, ownFrom_below (Nat.le_refl _) HP10.out.bel.size () A B row h5 hg hr⟩
      case round =>
        rintro l4 pre ⟨d, v⟩ V2 K ⟨h1, h2, h3, h4, h5⟩ ⟨hpre, hR, _⟩ hV2 hK
        have hR : Kd.R k27 27 V2 w10.heap.size (fun _ => True) v d.f1 := hR
        have hpre : pre.map (·.1) ++ [d] <+: putsV ps := hpre
        obtain ⟨Avx, cvx, hv⟩ := Kd.R_slice hR
        subst hv
        have hlt3 : pre.length < (putsV ps).length := by
          have h1 := hpre.length_le
          simp at h1; omega
        have hge : (putsV ps)[pre.length] = d := by
          have h1 := (List.prefix_iff_getElem.1 hpre).2 pre.length (by simp)
          simpa using h1.symm
        have hn400 : (putsV ps).length ≤ 400 := by
          have h2 := putsV_len ps
          omega
        have HGE := Aside0.mk hge
        have HR := Aside0.mk hR
        have H1 := Aside0.mk h1
        have H2 := Aside0.mk h2
        have H3 := Aside0.mk h3
        have H4 := Aside0.mk h4
        have H5 := Aside0.mk h5
        have HKK := Aside0.mk hK
        clear hR h1 h2 h3 h4 h5 hpre hK hge
        gi_wp2
        refine HKK.out _ _ (fun U => U.heap[V2.heap.size]? = some (.cells #[.bool d.f0, .slice Avx d.f1.length cvx] 25 (0, 0)) ∧ Kd.R k27 27 U w10.heap.size (fun _ => True) (.slice Avx d.f1.length cvx) d.f1 ∧ U.heap[w8.heap.size]? = some (.cells #[.int .i64 pre.length] 3 (0, 0)) ∧ U.heap[w2.heap.size + 1]? = some (.cells #[.pointer (some ⟨w2.heap.size, 0, none⟩)] 52 (0, 0)) ∧ U.heap[w2.heap.size]? = some (.cells #[.slice Aq (putsV ps).length cq] 54 (0, 0)) ∧ Kd.R (oldK k25 we) 25 U we.heap.size (fun k => ¬ OA k ∧ k ≠ w2.heap.size) (.slice Aq (putsV ps).length cq) (putsV ps) ∧ Below we.heap.size we U)
          ?zo2 ⟨heap_alloc_new V2 _, Kd.R_below HR.out (below_alloc (Below.refl _ _) _), blk_alloc H1.out _, blk_alloc H2.out _, blk_alloc H3.out _, Kd.R_below H4.out (below_alloc (Below.refl _ _) _), below_alloc H5.out _⟩ ((KeepsOthers.alloc _ _).from _) (Fr.of_below (below_alloc (Below.refl _ _) _)) ?_
        case zo2 =>
          rintro s A B row ⟨q1, q2, q3, q4, q5, q6, q7⟩ hg hr
          exact ⟨ownFrom_blk () A B row q1 hg hr, ownFrom_R () A B row q2 hg hr, ownFrom_blk () A B row q3 hg hr, ownFrom_blk () A B row q4 hg hr, ownFrom_blk () A B row q5 hg hr, ownFrom_RK () A B row q6 hg hr, ownFrom_below (Nat.le_refl _) HP10.out.bel.size () A B row q7 hg hr⟩
        rintro U ⟨q1, q2, q3, q4, q5, q6, q7⟩ hUs
        have hz0 : (0 : Int) ≤ (pre.length : Int) := by omega
        have hz1 : (pre.length : Int) < ((putsV ps).length : Int) := by omega
        have hz2 : ¬ (pre.length : Int) ≥ ((putsV ps).length : Int) := by omega
        have hz3 : decide ((pre.length : Int) ≥ ((putsV ps).length : Int)) = false := decide_eq_false hz2
        have hz4 : ¬ (putsV ps).length ≤ pre.length := by omega
        obtain ⟨Aq', cq', hqe, _, hCq'⟩ := Kd.R_reads q6
        injection hqe with hqe1 _ hqe2
        subst hqe1 hqe2
        obtain ⟨aa, Ar, cr, eA, x0, x1, hcr, hCr⟩ := at_T25 (oldK_C hCq' q7) (pre.length : Int) hz0 hz1
        cases eA
        rw [rdD_at (putsV ps) _ hlt3, HGE.out] at x0 x1 hcr hCr
        simp only [Int.toNat_natCast] at x0 x1
        have hq2 := Kd.R_reads' q2
        have hsame := fun (s : SomeW U) => same_T d.f0 Avx cvx d.f1 d.f0 Ar cr d.f1 s.W (Kd.C_below hq2.2.2 s.h) hq2.2.1 (Kd.C_below hCr s.h) hcr
        rw [sameV_self, beq_self_eq_true, Bool.and_self] at hsame
        have L0 : ∀ s : SomeW U, s.W.cell? ⟨V2.heap.size, 0, none⟩ = some (.bool d.f0) := fun s => cell_some ((blk_cell q1 0).trans rfl) s
        have L1 : ∀ s : SomeW U, s.W.cell? ⟨V2.heap.size, 1, none⟩ = some (.slice Avx d.f1.length cvx) := fun s => cell_some ((blk_cell q1 1).trans rfl) s
        have L2 : ∀ s : SomeW U, s.W.cell? ⟨w8.heap.size, 0, none⟩ = some (.int .i64 pre.length) := fun s => cell_some ((blk_cell q3 0).trans rfl) s
        have L3 : ∀ s : SomeW U, s.W.cell? ⟨w2.heap.size + 1, 0, none⟩ = some (.pointer (some ⟨w2.heap.size, 0, none⟩)) := fun s => cell_some ((blk_cell q4 0).trans rfl) s
        have L6 : ∀ s : SomeW U, s.W.cell? ⟨w2.heap.size, 0, none⟩ = some (.slice (some aa) (putsV ps).length cq) := fun s => cell_some ((blk_cell q5 0).trans rfl) s
        have L4 : ∀ s : SomeW U, s.W.cell? (aa.add (pre.length * 2)) = some (.bool d.f0) := fun s => cell_some x0 s
        have L5 : ∀ s : SomeW U, s.W.cell? ⟨(aa.add (pre.length * 2)).block, (aa.add (pre.length * 2)).off + 1, none⟩ = some (.slice Ar d.f1.length cr) := fun s => cell_some x1 s
        have Q3 := Aside0.mk q3
        have Q4 := Aside0.mk q4
        have Q5 := Aside0.mk q5
        have Q6 := Aside0.mk q6
        have Q7 := Aside0.mk q7
        have HN4 := Aside0.mk hn400
        clear q1 q2 q3 q4 q5 q6 q7 x0 x1 hcr hCr hq2 hz0 hCq'
        gi_wp2
        refine wpIn_region_quiet_some mixed_T (by kernel_rfl) (by kernel_rfl) (by rintro ⟨_, _, h⟩; exact h) ?_
        repeat (go_big_quiet_step (first | (go_at_call 18; refine Calls.below_some (hsame _))))
        refine wpQuiet_nil ?_
        intro U3 hw'
        obtain ⟨p_, hp_⟩ := hw'
        have hbU : Below U.heap.size U U3 := by rw [hp_]; exact p_.h
        clear hp_ p_ L0 L1 L2 L3 L4 L5 L6 hsame hz1 hz2 hz3 hz4
        have m0 := (blk_cell (blk_below Q3.out hbU) 0).trans rfl
        have mf := blk_frozen (blk_below Q3.out hbU) 0
        have HBU := Aside0.mk hbU
        have hnn : ((pre ++ [(d, Value.slice Avx d.f1.length cvx)]).length : Int) = (pre.length : Int) + 1 := by simp
        have hfin : (U3.setCell ⟨w8.heap.size, 0, none⟩ (.int .i64 ((pre.length : Int) + 1))).heap[w8.heap.size]? = some (.cells #[.int .i64 ((pre ++ [(d, Value.slice Avx d.f1.length cvx)]).length : Nat)] 3 (0, 0)) := by
          rw [hnn]; exact blk_set (blk_below Q3.out hbU) 0 _
        have HFIN := Aside0.mk (And.intro hfin (And.intro ((Sk.heap_set_ne U3 w8.heap.size 0 (w2.heap.size + 1) (.int .i64 ((pre.length : Int) + 1)) (by have := HQL.out; omega)).trans (blk_below Q4.out hbU)) (And.intro ((Sk.heap_set_ne U3 w8.heap.size 0 w2.heap.size (.int .i64 ((pre.length : Int) + 1)) (by have := HQL.out; omega)).trans (blk_below Q5.out hbU)) (And.intro (Kd.R_set (Kd.R_below Q6.out hbU) (blk_below Q3.out hbU) (by intro q hq; simp [oldK] at hq; omega) 0 (.int .i64 ((pre.length : Int) + 1))) (below_set (j := 0) (v := .int .i64 ((pre.length : Int) + 1)) (below_then Q7.out Q7.out.size hbU) HB10.out)))))
        clear hbU hnn hfin
        gi_wp2
        exact ⟨keepsFrom_set (keepsFrom_below HBU.out) _ _ _, (Fr.of_below HBU.out).set (.inl (.inl rfl)) _ _, HFIN.out⟩
      case done =>
        rintro xs2 U hxs2 ⟨h1, h2, h3, h4, h5⟩ hD2
        have hxl : xs2.length = (putsV ps).length := by
          have h := congrArg List.length (show xs2.map (·.1) = putsV ps from hxs2)
          rwa [List.length_map] at h
        rw [hxl] at h1
        generalize hml : (putsV ps).length = m at *
        have n0 := (blk_cell h1 0).trans rfl
        have b0_ := (blk_cell h2 0).trans rfl
        have q0_ := (blk_cell h3 0).trans rfl
        have hk4 := blk_below HK2e.out h5
        have r0 := (blk_cell hk4 0).trans rfl
        have rf := blk_frozen hk4 0
        have HK4 := Aside0.mk hk4
        have HD2' := Aside0.mk hD2
        have HBF := Aside0.mk (below_then HBe.out HBe.out.size h5)
        have h69 : W.heap.size + 1 < w10.heap.size := by have := (Array.getElem?_eq_some_iff.1 HK2e.out).1; have := HP10.out.bel.size; omega
        clear h1 h2 h3 h4 h5 hD2 hxl hk4 hxs2 hml
        go_wp2
        refine wp_region_noPanic ?_
        refine start_ (n := 8) (S := fun w' => w'.cell? ⟨w8.heap.size, 0, none⟩ = some (.int .i64 (m : Nat)) ∧ w'.cell? ⟨w2.heap.size + 1, 0, none⟩ = some (.pointer (some ⟨w2.heap.size, 0, none⟩)) ∧ w'.cell? ⟨w2.heap.size, 0, none⟩ = some (.slice Aq m cq)) (ds := [7]) #[false, false, false, false, false, false, false, false] (by kernel_rfl) rfl rfl ⟨(by simpa using n0), (by simpa using b0_), (by simpa using q0_)⟩ (fun hHeld => ?_)
        refine take_ (i := 0) (N := some 105) (v := ?_) (a' := ?_) #[true, false, false, false, false, false, false, false] rfl rfl (by kernel_rfl) (fun _ _ _ h => h) (Or.inl ⟨by rfl, ?_⟩) hHeld ?_ ?_
        rotate_left
        · rintro w' ⟨s0, s1, s2⟩
          go_simp
          with_reducible rfl
        rotate_left
        · simp only [Act.put, List.setIfInBounds_toArray, List.set_cons_zero, List.set_cons_succ, i64_w, i32_w]
          rfl
        refine take_ (i := 1) (N := some 106) (v := ?_) (a' := ?_) #[true, true, false, false, false, false, false, false] rfl rfl (by kernel_rfl) (fun _ _ _ h => h) (Or.inl ⟨by rfl, ?_⟩) hHeld ?_ ?_
        rotate_left
        · rintro w' ⟨s0, s1, s2⟩
          go_simp
          with_reducible rfl
        rotate_left
        · simp only [Act.put, List.setIfInBounds_toArray, List.set_cons_zero, List.set_cons_succ, i64_w, i32_w]
          rfl
        refine pure_ (i := 2) (N := some 107) (v := ?_) (a' := ?_) #[true, true, true, false, false, false, false, false] rfl rfl (by kernel_rfl) (fun _ _ _ h => h) (Or.inl ⟨by rfl, ?_⟩) ?_ ?_
        rotate_left
        · intro w'
          go_simp
          with_reducible rfl
        rotate_left
        · simp only [Act.put, List.setIfInBounds_toArray, List.set_cons_zero, List.set_cons_succ, i64_w, i32_w]
          rfl
        refine pure_ (i := 3) (N := some 108) (v := ?_) (a' := ?_) #[true, true, true, true, false, false, false, false] rfl rfl (by kernel_rfl) (fun _ _ _ h => h) (Or.inl ⟨by rfl, ?_⟩) ?_ ?_
        rotate_left
        · intro w'
          go_simp
          with_reducible rfl
        rotate_left
        · simp only [Act.put, List.setIfInBounds_toArray, List.set_cons_zero, List.set_cons_succ, i64_w, i32_w]
          rfl
        refine take_ (i := 4) (N := some 109) (v := ?_) (a' := ?_) #[true, true, true, true, true, false, false, false] rfl rfl (by kernel_rfl) (fun _ _ _ h => h) (Or.inl ⟨by rfl, ?_⟩) hHeld ?_ ?_
        rotate_left
        · rintro w' ⟨s0, s1, s2⟩
          go_simp
          with_reducible rfl
        rotate_left
        · simp only [Act.put, List.setIfInBounds_toArray, List.set_cons_zero, List.set_cons_succ, i64_w, i32_w]
          rfl
        refine pure_ (i := 5) (N := some 110) (v := ?_) (a' := ?_) #[true, true, true, true, true, true, false, false] rfl rfl (by kernel_rfl) (fun _ _ _ h => h) (Or.inl ⟨by rfl, ?_⟩) ?_ ?_
        rotate_left
        · intro w'
          go_simp
          with_reducible rfl
        rotate_left
        · simp only [Act.put, List.setIfInBounds_toArray, List.set_cons_zero, List.set_cons_succ, i64_w, i32_w]
          rfl
        refine pure_ (i := 6) (N := some 111) (v := ?_) (a' := ?_) #[true, true, true, true, true, true, true, false] rfl rfl (by kernel_rfl) (fun _ _ _ h => h) (Or.inl ⟨by rfl, ?_⟩) ?_ ?_
        rotate_left
        · intro w'
          go_simp
          with_reducible rfl
        rotate_left
        · simp only [Act.put, List.setIfInBounds_toArray, List.set_cons_zero, List.set_cons_succ, i64_w, i32_w]
          rfl
        refine last_ (i := 7) (N := none) #[true, true, true, true, true, true, true, true] rfl rfl (by kernel_rfl) (by decide) (fun K hK => ?_)
        refine skip_ (w1 := ?_) (by rfl) rfl ?_ ?_
        rotate_left
        · go_simp
          rfl
        refine hK.out _ _ ?_
        clear hK K
        refine done_ (by kernel_rfl) ?_

        refine NoPanic.normal ?_
        go_wp2
        refine ⟨by simp, .inl ⟨_, _, rfl, run_takeDeferred ((Sk.heap_set_ne U.drew _ _ _ _ (by omega)).trans HD2'.out), ?_⟩⟩
        have hcf : ((U.setCell ⟨W.heap.size + 1, 0, none⟩ (.bool true)).drew.putObj w10.heap.size (.deferred none)).heap[W.heap.size + 1]? = some (.cells #[.bool true] 4 (0, 0)) := (World.putObj_heap_other (by omega)).trans (blk_set HK4.out 0 (.bool true))
        refine ⟨.bool true, ?_, rfl, below_put (below_set (below_drew1 HBF.out) (by omega)) (by omega) _⟩
        simp [results, Try.f9, go_sem, (blk_cell hcf 0).trans rfl]
end Go.Proofs.Ytnfliommpdjlkaa.Pr
