/- skip.given as an iterator (numbers of seat b) -/
import Derived.Test.YtnfliommpdjlkaaSkS
namespace Go.Proofs.Ytnfliommpdjlkaa.Pr
open Go.RowKit Go.Proofs.Ytnfliommpdjlkaa.Brid Go.Proofs.YtnfliommpdjlkaaW.PrintWords Go.Proofs.YtnfliommpdjlkaaW.PrintLast Go.Proofs.YtnfliommpdjlkaaW.PrintMore
set_option linter.unusedVariables false
set_option linter.unusedSimpArgs false
set_option maxHeartbeats 4000000
set_option maxRecDepth 100000
attribute [local go_sem] Oper.semAt_some
theorem given_T (b : Nat) (w : World) : Calls Try.prog 51 #[.pointer (some ⟨b, 0, none⟩)] w fun e w' => e = .returned (.func (.func 56) #[] #[.pointer (some ⟨w.heap.size, 0, none⟩)]) ∧ w' = w.alloc (.cells #[.pointer (some ⟨b, 0, none⟩)] 66) := by
  go_enter Try.func51, Try.ntmps51
  go_wp2
  go_ret
  exact ⟨rfl, rfl⟩
/-- what a round of the deeds is handed: the next deed, its row of its own -/
def GoodD (n0 : Nat) (ds : List S25) (pre : List (S25 × Value)) (x : S25 × Value) (V : World) : Prop :=
  pre.map (·.1) ++ [x.1] <+: ds ∧ Kd.R k27 27 V n0 (fun _ => True) x.2 x.1.f1
theorem given_G (p gb : Nat) (u v : List (Sk.Nd S25)) (O X : Nat → Prop) (c b : Int) (w : World) (M : SkM w O p (u ++ v) c b) (hpos : ∀ n ∈ u ++ v, 0 < n.h) (hlen : ∀ n ∈ u ++ v, n.d.f1.length ≤ 4398046511103)
    (hb : w.heap[gb]? = some (.cells #[.pointer (some ⟨Sk.lst p 0 u, 0, none⟩)] 66 (0, 0))) (hXb : ¬ X gb) (hXO : ∀ k, O k → k < w.heap.size ∧ ¬ X k) (hXl : ∀ k, X k → k < w.heap.size + 2) :
    SeqG Try.prog 56 #[.pointer (some ⟨gb, 0, none⟩)] (fun x : S25 × Value => #[.agg #[.bool x.1.f0, x.2]]) (GoodD w.heap.size (v.map (·.d))) X (fun xs => xs.map (·.1) = v.map (·.d)) (fun pre => pre.map (·.1) <+: v.map (·.d)) w := by
  intro l J Jx W hBW hZ hJ hJx hY hJ0
  refine (callsIn_wide (n := 1)).1 (callsIn_of_wp_marks Try.func56 rfl trivial ?_ rfl)
  simp only [Try.ntmps56, List.size_toArray, List.length_cons, List.length_nil, Nat.reduceAdd, Nat.reduceSub, Array.replicate_succ, Array.replicate_zero, List.push_toArray, List.append_toArray, List.nil_append, List.cons_append]
  refine wpIn_wide.2 ?_
  have hbW := blk_below hb hBW
  have hc0 := (blk_cell (blk_alloc hbW (.cells #[.func (.yield l) #[] #[]] 32)) 0).trans rfl
  have HM := Aside0.mk M
  have HJ := Aside0.mk hJ
  have HJx := Aside0.mk hJx
  have HY := Aside0.mk hY
  have HJ0 := Aside0.mk hJ0
  have HXO := Aside0.mk hXO
  have HXL := Aside0.mk hXl
  have HPOS := Aside0.mk hpos
  have HLEN := Aside0.mk hlen
  have HBW := Aside0.mk hBW
  have HXb := Aside0.mk hXb
  clear M hJ hJx hY hJ0 hXO hXl hpos hlen hBW hXb hb hbW
  go_wp2_with (go_at_call 57; refine (behind_T _ _).mono ?_; rintro e w' ⟨rfl, rfl⟩)
  have b2 : Below W.heap.size W ((W.alloc (.cells #[.func (.yield l) #[] #[]] 32)).alloc (.cells #[.pointer (some ⟨Sk.lst p 0 u, 0, none⟩)] 66)) := below_alloc (below_alloc (Below.refl _ _) _) _
  have z2 : ((W.alloc (.cells #[.func (.yield l) #[] #[]] 32)).alloc (.cells #[.pointer (some ⟨Sk.lst p 0 u, 0, none⟩)] 66)).heap.size = W.heap.size + 2 := by simp
  have ky : ((W.alloc (.cells #[.func (.yield l) #[] #[]] 32)).alloc (.cells #[.pointer (some ⟨Sk.lst p 0 u, 0, none⟩)] 66)).heap[W.heap.size]? = some (.cells #[.func (.yield l) #[] #[]] 32 (0, 0)) := blk_alloc (heap_alloc_new W _) _
  have kb : ((W.alloc (.cells #[.func (.yield l) #[] #[]] 32)).alloc (.cells #[.pointer (some ⟨Sk.lst p 0 u, 0, none⟩)] 66)).heap[W.heap.size + 1]? = some (.cells #[.pointer (some ⟨Sk.lst p 0 u, 0, none⟩)] 66 (0, 0)) := by
    have := heap_alloc_new (W.alloc (.cells #[.func (.yield l) #[] #[]] 32)) (.cells #[.pointer (some ⟨Sk.lst p 0 u, 0, none⟩)] 66)
    rwa [show (W.alloc (.cells #[.func (.yield l) #[] #[]] 32)).heap.size = W.heap.size + 1 by simp] at this
  have HJ2 := Aside0.mk (HJ.out [] _ _ none HJ0.out (World.grownBy_alloc W (.cells #[.func (.yield l) #[] #[]] 32) none) (fun r e => by cases e))
  have HJ2 := Aside0.mk (HJ.out [] _ _ none HJ2.out (World.grownBy_alloc _ (.cells #[.pointer (some ⟨Sk.lst p 0 u, 0, none⟩)] 66) none) (fun r e => by cases e))
  have hww : w.heap.size + 2 ≤ W.heap.size := hZ
  have HKY := Aside0.mk ky
  have HKB := Aside0.mk kb
  have HB2 := Aside0.mk b2
  clear ky kb b2 hc0
  generalize ((W.alloc (.cells #[.func (.yield l) #[] #[]] 32)).alloc (.cells #[.pointer (some ⟨Sk.lst p 0 u, 0, none⟩)] 66)) = w2 at *
  have HM2 := Aside0.mk (HM.out.below (below_then HBW.out HBW.out.size HB2.out))
  refine wp_rangeG (gf := 60) (lb := #[.pointer (some ⟨W.heap.size + 1, 0, none⟩)]) rfl (enters_of Try.func60 (by kernel_rfl) rfl)
    (X := fun k => X k ∨ k = w2.heap.size ∨ k = w2.heap.size + 1)
    (behind_G p (W.heap.size + 1) u v O (fun k => X k ∨ k = w2.heap.size ∨ k = w2.heap.size + 1) c b w2 HM2.out HPOS.out HKB.out (fun h => by
      rcases h with h | h | h
      · have := HXL.out _ h; omega
      · omega
      · omega) (fun k hk h => by
      have hk2 := HXO.out k hk
      rcases h with h | h | h
      · exact hk2.2 h
      · omega
      · omega)) (.inr (.inl rfl)) (.inr (.inr rfl)) (fun _ => rfl)
    (fun pre2 V => (∃ xs, xs.map (·.1) = pre2.map (·.d) ∧ J xs V) ∧ SkM V O p (u ++ v) c b ∧ V.heap[W.heap.size]? = some (.cells #[.func (.yield l) #[] #[]] 32 (0, 0)) ∧ W.heap.size ≤ V.heap.size)
    (fun cd pre2 V => cd = .ret ∧ ∃ xs, xs.map (·.1) <+: v.map (·.d) ∧ Jx xs V)
    ?hI ?hIx ⟨⟨[], rfl, HJ2.out⟩, HM2.out, HKY.out, ?hF⟩
    (fun pre n a' V => a' = { tmps := #[.func (.yield l) #[] #[], .pointer (some ⟨gb, 0, none⟩), .pointer (some ⟨W.heap.size, 0, none⟩), .pointer (some ⟨n.b, 0, none⟩), .pointer (some ⟨Sk.lst p 0 u, 0, none⟩), .func (.func 60) #[] #[.pointer (some ⟨W.heap.size + 1, 0, none⟩)], .pointer (some ⟨n.b, 0, none⟩), undef, undef, undef, undef, undef, undef, undef, undef], defers := [] } ∧ pre ++ [n] <+: v)
    (fun pre x a' => ownFrom_pure _ _) ?assign ?body ?done ?stop
  case hF => exact HB2.out.size
  case hI =>
    rintro s A B row ⟨⟨xs, hx, hj⟩, hm, hk, hf⟩ hg hr
    have hrow : ∀ r, row = some r → w2.heap.size ≤ r := fun r e => (hr r e).1
    refine ⟨⟨xs, hx, HJ.out xs A B row hj hg (fun r e => ⟨by have := hrow r e; omega, (hr r e).2⟩)⟩, hm.keep (fun k hk hkl => hg.block k hkl (fun e => by have := hrow k e.symm; have := HXO.out k hk; omega)), (hg.block _ (Array.getElem?_eq_some_iff.1 hk).1 (fun e => by have := hrow _ e.symm; omega)).trans hk, Nat.le_trans hf hg.size⟩
  case hIx =>
    rintro cd s A B row ⟨hc, xs, hx, hj⟩ hg hr
    exact ⟨hc, xs, hx, HJx.out xs A B row hj hg (fun r e => ⟨by have := (hr r e).1; omega, (hr r e).2⟩)⟩
  case assign =>
    intro l2 pre n V K hi hgood hV hK
    gi_wp2
    exact hK _ _ (KeepsFrom.refl _ _) (Fr.refl _ _) hi ⟨rfl, hgood⟩
  case body =>
    rintro l2 pre n a' V ⟨⟨xs, hxs, hj⟩, hm, hk, hf⟩ ⟨rfl, hpre⟩ hV
    obtain ⟨rest, hrest⟩ := hpre
    have hv : u ++ v = (u ++ pre) ++ n :: rest := by rw [← hrest]; simp
    have hmem : n ∈ u ++ v := by rw [hv]; simp
    obtain ⟨A, cc, hnv, hcc, hC, hln⟩ := hm.rowsOk n hmem
    have n0 := (hm.chain.node (u ++ pre) n rest hv).c0
    have n1 := (hm.chain.node (u ++ pre) n rest hv).c1
    rw [hnv] at n1
    have k0 := (blk_cell hk 0).trans rfl
    have hown := own_T n.d.f0 (some A) cc n.d.f1 V hC hcc (HLEN.out n hmem)
    have HOWN := Aside0.mk (fun V1 (hB : Below V.heap.size V V1) => (own_T n.d.f0 (some A) cc n.d.f1 V1 (Kd.C_below hC hB) hcc (HLEN.out n hmem)).mono (R' := fun e V3 => ∃ v3 : Value, e = .returned (.agg #[.bool n.d.f0, v3]) ∧ Below V.heap.size V V3 ∧ V3.cell? ⟨W.heap.size, 0, none⟩ = some (.func (.yield l) #[] #[]) ∧
        YieldAt Fence.wide 0 Try.prog l #[.agg #[.bool n.d.f0, v3]] V3 fun e V' => ∃ bq : Bool, e = .returned (.bool bq) ∧ ((bq = true ∧ Fr X V V' ∧ ∃ xs, xs.map (·.1) = (pre ++ [n]).map (·.d) ∧ J xs V') ∨ (bq = false ∧ Fr X V V' ∧ ∃ xs, xs.map (·.1) <+: v.map (·.d) ∧ Jx xs V'))) (fun e V3 h => by
      obtain ⟨v3, he, hR3, hb3⟩ := h
      have hB3 := below_then hB hB.size hb3
      refine ⟨v3, he, hB3, (Below.cell hB3 (World.block_lt_of_cell? _ _ k0)).trans k0, ?_⟩
      have hj3 : J xs V3 := HJ.out xs V V3 none hj (grown_of_below hB3 _) (fun r e => by cases e)
      have hgood : GoodD w.heap.size (v.map (·.d)) xs (n.d, v3) V3 := ⟨⟨rest.map (·.d), by rw [hxs, ← hrest]; simp⟩, Kd.R_lower hR3 (by have := hB.size; omega)⟩
      exact (HY.out xs (n.d, v3) V3 hj3 hgood (Nat.le_trans hf hB3.size)).mono (fun e V' h => by
        rcases h with ⟨he, hj', hfr⟩ | ⟨he, hj', hfr⟩
        · exact ⟨true, he, .inl ⟨rfl, (Fr.of_below hB3).trans hfr, xs ++ [(n.d, v3)], by simp [hxs], hj'⟩⟩
        · exact ⟨false, he, .inr ⟨rfl, (Fr.of_below hB3).trans hfr, xs ++ [(n.d, v3)], ⟨rest.map (·.d), by rw [List.map_append, hxs, ← hrest]; simp⟩, hj'⟩⟩)))
    have HM := Aside0.mk hm
    have HK := Aside0.mk hk
    have HV := Aside0.mk hv
    have HF := Aside0.mk hf
    have HRR := Aside0.mk hrest
    clear hm hk hv hf hj hxs hown hmem hC hcc hln hnv hrest
    gi_wp2
    gi_region_with (first
      | (refine ⟨trivial, rfl, ?_⟩; gi_at_call 43; refine (CallsIn.inRound l2 (callsIn_wide.2 (HOWN.out _ ?_))).mono ?_; (first | exact Below.refl _ _ | exact below_drew1 (Below.refl _ _)); rintro e V3 ⟨v3, rfl, hb3, k3, fn, tmps, assign, body, hy, hR⟩)
      | (refine ⟨rfl, ?_⟩; refine hR.mono ?_; rintro e V4 ⟨bq, rfl, hq⟩))
    all_goals have hX2 : ∀ k, X k → X k ∨ k = w2.heap.size ∨ k = w2.heap.size + 1 := fun k h => .inl h
    all_goals rcases hq with ⟨rfl, hfr, hxs'⟩ | ⟨rfl, hfr, hxs'⟩
    all_goals
      have hkf : KeepsFrom w2.heap.size V V4 := ⟨hfr.size, fun k o hk ho _ => (hfr.block k (Array.getElem?_eq_some_iff.1 ho).1 (fun h => by have := HXL.out k h; omega)).trans ho⟩
      have HKF := Aside0.mk hkf
      have HFR := Aside0.mk (hfr.mono (fun k _ h => hX2 k h))
      have HXS := Aside0.mk hxs'
      have HSZ := Aside0.mk hfr.size
      have HM4 := Aside0.mk (HM.out.keep (fun k hk hkl => hfr.block k hkl (fun h => (HXO.out k hk).2 h)))
      have HK4 := Aside0.mk ((hfr.block _ (Array.getElem?_eq_some_iff.1 HK.out).1 (fun h => by have := HXL.out _ h; omega)).trans HK.out)
      clear hkf hfr hxs' hX2 hy hR k3 hb3
      gi_wp2
      first
        | exact ⟨HKF.out, HFR.out, HXS.out, HM4.out, HK4.out, Nat.le_trans HF.out HSZ.out⟩
        | exact ⟨HKF.out, HFR.out, rfl, HXS.out⟩
  case done =>
    rintro pre2 V rfl ⟨⟨xs, hxs, hj⟩, hm, hk, hf⟩ hD
    have HJ3 := Aside0.mk (HJ.out xs V _ (some w2.heap.size) hj (grownBy_putObj' V w2.heap.size (.deferred none)) (fun r e => by cases e; exact ⟨by omega, _, hD, rfl⟩))
    have HXS := Aside0.mk hxs
    clear hj hxs hm hk hf
    go_wp2
    refine ⟨by simp, .inl ⟨_, _, rfl, run_takeDeferred hD, ?_⟩⟩
    exact ⟨_, results_none rfl _ _ _, ⟨_, rfl⟩, .inl ⟨xs, HXS.out, HJ3.out⟩⟩
  case stop =>
    rintro cd pre2 V _ ⟨rfl, xs, hxs, hj⟩ hD
    have HJ3 := Aside0.mk (HJx.out xs V _ (some w2.heap.size) hj (grownBy_putObj' V w2.heap.size (.deferred none)) (fun r e => by cases e; exact ⟨by omega, _, hD, rfl⟩))
    have HXS := Aside0.mk hxs
    clear hj hxs
    go_wp2
    refine ⟨by simp, .inl ⟨_, _, rfl, run_takeDeferred hD, ?_⟩⟩
    exact ⟨_, results_none rfl _ _ _, ⟨_, rfl⟩, .inr ⟨xs, HXS.out, HJ3.out⟩⟩
end Go.Proofs.Ytnfliommpdjlkaa.Pr
