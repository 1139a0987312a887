/- skip.Put walked (numbers of seat b) -/
import Derived.Test.YtnfliommpdjlkaaSkE
namespace Go.Proofs.Ytnfliommpdjlkaa.Pr
open Go.RowKit Go.Proofs.Ytnfliommpdjlkaa.Brid Go.Proofs.YtnfliommpdjlkaaW.PrintWords Go.Proofs.YtnfliommpdjlkaaW.PrintLast Go.Proofs.YtnfliommpdjlkaaW.PrintMore
set_option linter.unusedVariables false
set_option linter.unusedSimpArgs false
set_option maxHeartbeats 4000000
set_option maxRecDepth 100000
/-- what Put leaves: a new node, or another deed at the node of the key -/
def PutPost (w : World) (O : Nat → Prop) (p : Nat) (pre post : List (Sk.Nd S25)) (cc bb : Int) (d : S25) (w' : World) : Prop :=
  match nodeOf (keyT d) post with
  | none => ∃ nb h rv, 0 < h ∧ SkM w' (fun k => O k ∨ w.heap.size ≤ k) p (pre ++ ⟨nb, h, rv, d⟩ :: post) (wrap64 (cc + 1)) (wrap64 (bb + sizeI d.f1))
  | some _ => ∃ n r rv, post = n :: r ∧ SkM w' (fun k => O k ∨ w.heap.size ≤ k) p (pre ++ ⟨n.b, n.h, rv, d⟩ :: r) cc (wrap64 (bb + sizeI d.f1 - sizeI n.d.f1))
theorem arr8_at (f : Nat → Nat) (i : Nat) (hi : i < 8) : (#[.pointer (some ⟨f 0, 0, none⟩), .pointer (some ⟨f 1, 0, none⟩), .pointer (some ⟨f 2, 0, none⟩), .pointer (some ⟨f 3, 0, none⟩), .pointer (some ⟨f 4, 0, none⟩), .pointer (some ⟨f 5, 0, none⟩), .pointer (some ⟨f 6, 0, none⟩), .pointer (some ⟨f 7, 0, none⟩)] : Array Value)[i]? = some (.pointer (some ⟨f i, 0, none⟩)) := by
  match i, hi with
  | 0, _ => rfl
  | 1, _ => rfl
  | 2, _ => rfl
  | 3, _ => rfl
  | 4, _ => rfl
  | 5, _ => rfl
  | 6, _ => rfl
  | 7, _ => rfl
theorem put_T (p : Nat) (d : S25) (A0 : Option Addr) (c0 : Nat) (pre post : List (Sk.Nd S25)) (O : Nat → Prop) (cc bb : Int) (w : World) (H : SkM w O p (pre ++ post) cc bb)
    (hpre : ∀ n ∈ pre, lessT (keyT n.d) (keyT d) = true) (hpost : ∀ n ∈ post, lessT (keyT n.d) (keyT d) = false) (hh : ∀ n ∈ pre ++ post, 0 < n.h) (hC : Kd.C k27 w A0 d.f1.length d.f1) (hc : d.f1.length ≤ c0) (hl : 0 < d.f1.length) (hm : d.f1.length ≤ 4398046511103) :
    Calls Try.prog 16 #[.pointer (some ⟨p, 0, none⟩), .agg #[.bool d.f0, .slice A0 d.f1.length c0]] w fun e w' => e = .returned (.bool true) ∧ Fr O w w' ∧ PutPost w O p pre post cc bb d w' := by
  have b1 : Below w.heap.size w (w.alloc (.cells #[.bool d.f0, .slice A0 d.f1.length c0] 25)) := below_alloc (Below.refl _ _) _
  have K0 := heap_alloc_new w (.cells #[.bool d.f0, .slice A0 d.f1.length c0] 25)
  have hcl := cloneR.calls A0 c0 d.f1 d.f1 _ (Kd.C_below hC b1) hc (by unfold cloneR.f; rw [if_pos hm])
  have HH := Aside0.mk H
  have HB1 := Aside0.mk b1
  have HK0 := Aside0.mk K0
  have hlz : (0 : Int) < (d.f1.length : Int) := by omega
  have hlne : ¬ (d.f1.length : Int) = 0 := by omega
  have hlneb : ((d.f1.length : Int) == 0) = false := beq_eq_false_iff_ne.2 hlne
  have hlneN : ¬ d.f1.length = 0 := by omega
  clear H b1 K0 hC
  go_enter Try.func16, Try.ntmps16
  go_wp2_with (go_at_call 38; refine hcl.mono ?_; rintro e w2 ⟨v, rfl, hR, hb2⟩; obtain ⟨Av, cv, hv⟩ := Kd.R_slice hR; subst hv; have HR := Aside0.mk hR; have HB2 := Aside0.mk hb2; have K2 := blk_below HK0.out hb2; have c0_ := (blk_cell K2 0).trans rfl; have c1_ := (blk_cell K2 1).trans rfl; have f1_ := blk_frozen K2 1; have HK2 := Aside0.mk K2; clear hR hb2 K2 hcl)
  have HB3 := Aside0.mk (below_set (j := 1) (v := .slice Av d.f1.length cv) (below_then HB1.out HB1.out.size HB2.out) (Nat.le_refl w.heap.size))
  have HK3 : Aside0 ((w2.setCell ⟨w.heap.size, 1, none⟩ (.slice Av d.f1.length cv)).heap[w.heap.size]? = some (.cells #[.bool d.f0, .slice Av d.f1.length cv] 25 (0, 0))) := ⟨blk_set HK2.out 1 _⟩
  have HR3 := Aside0.mk (Kd.R_set HR.out HK2.out (k27_E 25 (by omega)) 1 (.slice Av d.f1.length cv))
  clear c0_ c1_ f1_ HR HB2 HK2
  generalize w2.setCell ⟨w.heap.size, 1, none⟩ (.slice Av d.f1.length cv) = w3 at *
  have H3 := HH.out.below HB3.out
  have HH3 := Aside0.mk H3
  clear H3
  have hsz := fun (W : World) (hB : Below w3.heap.size w3 W) => (size_T d.f0 Av cv d.f1 W (Kd.C_below (Kd.R_reads' HR3.out).2.2 hB) (Kd.R_reads' HR3.out).2.1).mono (R' := fun e w' => e = .returned (.int .i64 (wrap64 (sizeI d.f1))) ∧ Below w3.heap.size w3 w') (fun e w' h => ⟨h.1, below_then hB hB.size h.2⟩)
  obtain ⟨sz, hszd⟩ : ∃ sz, sz = sizeI d.f1 := ⟨_, rfl⟩
  rw [← hszd] at hsz
  have HSZ := Aside0.mk hszd
  clear hszd
  refine wp_cut_T (fun w' => ∃ w4, Below w3.heap.size w3 w4 ∧ w' = w4.setCell ⟨p, 12, none⟩ (.int .i64 (IntKind.i64.wrap (bb + wrap64 sz)))) ?_
  apply Exists.intro
  refine And.intro ?_ ?_
  · have hf := fun (W : World) (hB : Below w3.heap.size w3 W) => (Below.cell hB (World.block_lt_of_cell? _ _ HH3.out.byt)).trans HH3.out.byt
    have hfr : ∀ (W : World), Below w3.heap.size w3 W → W.frozen? ⟨p, 12, none⟩ = false := fun W hB => (HH3.out.below hB).chain.head.thaw 12
    have q0 := (blk_cell HK3.out 0).trans rfl
    have q1 := (blk_cell HK3.out 1).trans rfl
    have q2 := HH3.out.byt
    have q3 := hfr w3 (Below.refl _ _)
    go_region_with (go_at_call 39; refine (hsz _ ?_).mono ?_; (first | exact Below.refl _ _ | exact below_drew1 (Below.refl _ _)); rintro e w4 ⟨rfl, hb4⟩; have qa := hf w4 hb4; have qb := hfr w4 hb4)
    all_goals exact ⟨rfl, w4, hb4, rfl⟩
  · rintro w5 ⟨w4, hb4, hw5⟩
    have H5 : Aside0 (SkM w5 O p (pre ++ post) cc (wrap64 (bb + sz))) := ⟨by
      rw [hw5, w64, wrap_add_wrap]
      exact (HH3.out.below hb4).setB _⟩
    have K5 : Aside0 (w5.heap[w.heap.size]? = some (.cells #[.bool d.f0, .slice Av d.f1.length cv] 25 (0, 0))) := ⟨by
      rw [hw5]
      exact (Sk.heap_set_ne _ _ _ _ _ (by have := HH.out.chain.head.lt; omega)).trans (blk_below HK3.out hb4)⟩
    have R5 : Aside0 (Kd.R k27 27 w5 (w.alloc (.cells #[.bool d.f0, .slice A0 d.f1.length c0] 25)).heap.size (fun _ => True) (.slice Av d.f1.length cv) d.f1) := ⟨by
      rw [hw5]
      obtain ⟨cs, hb, _⟩ := (HH3.out.below hb4).headBlk
      exact Kd.R_set (Kd.R_below HR3.out hb4) hb (k27_E 71 (by omega)) _ _⟩
    have F5 : Aside0 (Fr O w w5) := ⟨by
      rw [hw5]
      exact (Fr.of_below (below_then HB3.out HB3.out.size hb4)).set (.inl HH.out.op) _ _⟩
    clear hw5 hb4 HR3 HH3 HK3 HB3
    have hfind := find_T p (keyT d) pre post w5 H5.out.chain H5.out.rowsOk hpre hpost hh
    have hrd := (Kd.R_reads' R5.out).2.2
    obtain ⟨ad, eA, x0, x1, x2⟩ := at_T27 hrd (0 : Int) (by omega) hlz
    subst eA
    have x0 : w5.cell? ad = some (.bool (keyT d).f0) := by simpa [Addr.add, keyT] using x0
    have x1 : w5.cell? ⟨ad.block, ad.off + 1, none⟩ = some (.int .i64 (keyT d).f1) := by simpa [Addr.add, keyT] using x1
    have x2 : w5.cell? ⟨ad.block, ad.off + 2, none⟩ = some (.string (keyT d).f2) := by simpa [Addr.add, keyT] using x2
    have q0 := (blk_cell K5.out 0).trans rfl
    have q1 := (blk_cell K5.out 1).trans rfl
    have HPRE := Aside0.mk hpre
    have HPOST := Aside0.mk hpost
    have HG := Aside0.mk hh
    clear hpre hpost hh hrd
    have HLE := Aside0.mk hl
    obtain ⟨ky, hky⟩ : ∃ ky, ky = keyT d := ⟨_, rfl⟩
    rw [← hky] at x0 x1 x2 hfind HPRE HPOST
    have HKY := Aside0.mk hky
    obtain ⟨ln, hln⟩ : ∃ ln, ln = d.f1.length := ⟨_, rfl⟩
    rw [← hln] at R5 K5 q1 hlz hl
    have HLN := Aside0.mk hln
    clear hky hln
    obtain ⟨f, hfd⟩ : ∃ f : Nat → Nat, f = fun L => Sk.lst p L pre := ⟨_, rfl⟩
    have HF := Aside0.mk hfd
    have hpath : ∀ (W : World) (hB : Below w5.heap.size w5 W), Calls Try.prog 41 #[.pointer (some ⟨p, 0, none⟩), .agg (cellsT ky)] W fun e w' => e = .returned (.agg #[.pointer (some ⟨f 0, 0, none⟩), .pointer (some ⟨f 1, 0, none⟩), .pointer (some ⟨f 2, 0, none⟩), .pointer (some ⟨f 3, 0, none⟩), .pointer (some ⟨f 4, 0, none⟩), .pointer (some ⟨f 5, 0, none⟩), .pointer (some ⟨f 6, 0, none⟩), .pointer (some ⟨f 7, 0, none⟩)]) ∧ Below W.heap.size W w' := fun W hB => by
      rw [hfd]
      exact path_T p ky pre post W (H5.out.below hB).chain (H5.out.below hB).rowsOk HPRE.out HPOST.out
    clear hfd
    have HPATH := Aside0.mk hpath
    clear hpath
    cases hno : nodeOf ky post with
    | some nb =>
      obtain ⟨n, r, hpost, hnb, hnl⟩ : ∃ n r, post = n :: r ∧ n.b = nb ∧ lessT ky (keyT n.d) = false := by
        cases post with
        | nil => cases hno
        | cons n r =>
          rw [nodeOf] at hno
          split at hno
          · cases hno
          · rename_i h
            exact ⟨n, r, rfl, Option.some.inj hno, by simpa using h⟩
      subst hnb
      rw [hno] at hfind
      have HNO := Aside0.mk hno
      have HPE := Aside0.mk hpost
      clear hno
      have hfind : Calls Try.prog 40 #[.pointer (some ⟨p, 0, none⟩), .agg (cellsT ky)] w5 fun e w' => e = .returned (.pointer (some ⟨n.b, 0, none⟩)) ∧ Below w5.heap.size w5 w' := hfind
      have hm5 : n ∈ pre ++ post := by rw [hpost]; simp
      have hq : ∀ W : World, Below w5.heap.size w5 W → W.cell? ⟨w.heap.size, 0, none⟩ = some (.bool d.f0) ∧ W.cell? ⟨w.heap.size, 1, none⟩ = some (.slice (some ad) ln cv) := fun W hB =>
        ⟨(Below.cell hB (World.block_lt_of_cell? _ _ q0)).trans q0, (Below.cell hB (World.block_lt_of_cell? _ _ q1)).trans q1⟩
      have HQ := Aside0.mk hq
      clear hq HPATH HF hpost
      go_wp2_with (go_at_call 40; refine hfind.mono ?_; rintro e w6 ⟨rfl, hb6⟩; clear x0 x1 x2 q0 q1 hfind; have HB6 := Aside0.mk hb6; clear hb6)
      have H6 := Aside0.mk (H5.out.below HB6.out)
      obtain ⟨A, c, hv, hcc, hC, hln⟩ := H6.out.rowsOk n hm5
      obtain ⟨ns1, ns2, hsp⟩ := List.append_of_mem hm5
      have hn0 := (H6.out.chain.node ns1 n ns2 hsp).c0
      have hn1 := (H6.out.chain.node ns1 n ns2 hsp).c1
      rw [hv] at hn1
      have hszn := fun (W : World) (hB : Below w6.heap.size w6 W) => (size_T n.d.f0 (some A) c n.d.f1 W (Kd.C_below hC hB) hcc).mono (R' := fun e w' => e = .returned (.int .i64 (wrap64 (sizeI n.d.f1))) ∧ Below w6.heap.size w6 w') (fun e w' h => ⟨h.1, below_then hB hB.size h.2⟩)
      obtain ⟨sn, hsnd⟩ : ∃ sn, sn = sizeI n.d.f1 := ⟨_, rfl⟩
      rw [← hsnd] at hszn
      have HSN := Aside0.mk hsnd
      obtain ⟨b6, hb6d⟩ : ∃ b6, b6 = wrap64 (bb + sz) := ⟨_, rfl⟩
      rw [← hb6d] at H6
      have HBD := Aside0.mk hb6d
      clear hsnd hv hC hcc hb6d
      refine wp_cut_T (fun w' => ∃ w7, Below w6.heap.size w6 w7 ∧ w' = w7.setCell ⟨p, 12, none⟩ (.int .i64 (IntKind.i64.wrap (b6 - wrap64 sn)))) ?_
      apply Exists.intro
      refine And.intro ?_ ?_
      · have hf := fun (W : World) (hB : Below w6.heap.size w6 W) => (Below.cell hB (World.block_lt_of_cell? _ _ H6.out.byt)).trans H6.out.byt
        have hfr : ∀ (W : World), Below w6.heap.size w6 W → W.frozen? ⟨p, 12, none⟩ = false := fun W hB => (H6.out.below hB).chain.head.thaw 12
        have q2 := H6.out.byt
        have q3 := hfr w6 (Below.refl _ _)
        go_region_with (go_at_call 39; refine (hszn _ ?_).mono ?_; (first | exact Below.refl _ _ | exact below_drew1 (Below.refl _ _)); rintro e w7 ⟨rfl, hb7⟩; have qa := hf w7 hb7; have qb := hfr w7 hb7)
        all_goals exact ⟨rfl, w7, hb7, rfl⟩
      · rintro w8 ⟨w7, hb7, hw8⟩
        have hB57 : Below w5.heap.size w5 w7 := below_then HB6.out HB6.out.size hb7
        have H8 : Aside0 (SkM w8 O p (pre ++ post) cc (wrap64 (bb + sz - sn))) := ⟨by
          rw [hw8, w64, HBD.out, wrap_sub_wrap]
          exact (H6.out.below hb7).setB _⟩
        have K8 : Aside0 (w8.heap[w.heap.size]? = some (.cells #[.bool d.f0, .slice (some ad) ln cv] 25 (0, 0))) := ⟨by
          rw [hw8]
          exact (Sk.heap_set_ne _ _ _ _ _ (by have := HH.out.chain.head.lt; omega)).trans (blk_below K5.out hB57)⟩
        have R8 : Aside0 (Kd.R k27 27 w8 0 (fun k => O k ∨ w.heap.size ≤ k) (.slice (some ad) ln cv) d.f1) := ⟨by
          rw [hw8]
          obtain ⟨cs, hb, _⟩ := (H6.out.below hb7).headBlk
          exact Kd.R_lower (Kd.R_mono (Kd.R_bound (Kd.R_set (Kd.R_below R5.out hB57) hb (k27_E 71 (by omega)) _ _)) (fun k hk => .inr (Nat.le_trans (by simp) hk.2.1))) (Nat.zero_le _)⟩
        have F8 : Aside0 (Fr O w w8) := ⟨by
          rw [hw8]
          exact (F5.out.trans (Fr.of_below hB57)).set (.inl HH.out.op) _ _⟩
        clear hw8 hb7 hB57 hn0 hn1 hszn H6 HB6 H5 R5 K5 F5
        have hn8 := H8.out.chain.node ns1 n ns2 hsp
        have u0 := hn8.c0
        have u1 := hn8.c1
        have z0 := hn8.thaw 0
        have z1 := hn8.thaw 1
        have q0 := (blk_cell K8.out 0).trans rfl
        have q1 := (blk_cell K8.out 1).trans rfl
        clear hn8
        go_wp2
        go_ret
        refine ⟨rfl, (F8.out.set (.inl (HH.out.on n hm5)) _ _).set (.inl (HH.out.on n hm5)) _ _, ?_⟩
        unfold PutPost
        rw [← HKY.out, HNO.out]
        refine ⟨n, r, .slice (some ad) ln cv, HPE.out, ?_⟩
        rw [← HSZ.out, ← HSN.out]
        have H8' := H8.out
        rw [HPE.out] at H8'
        exact H8'.put (fun k hk => .inl hk) R8.out HLE.out
    | none =>
      rw [hno] at hfind
      have hfind : Calls Try.prog 40 #[.pointer (some ⟨p, 0, none⟩), .agg (cellsT ky)] w5 fun e w' => e = .returned (.pointer none) ∧ Below w5.heap.size w5 w' := hfind
      have HNO := Aside0.mk hno
      clear hno
      have hq : ∀ W : World, Below w5.heap.size w5 W → W.cell? ad = some (.bool ky.f0) ∧ W.cell? ⟨ad.block, ad.off + 1, none⟩ = some (.int .i64 ky.f1) ∧ W.cell? ⟨ad.block, ad.off + 2, none⟩ = some (.string ky.f2) ∧ W.cell? ⟨w.heap.size, 0, none⟩ = some (.bool d.f0) ∧ W.cell? ⟨w.heap.size, 1, none⟩ = some (.slice (some ad) ln cv) := fun W hB =>
        ⟨(Below.cell hB (World.block_lt_of_cell? _ _ x0)).trans x0, (Below.cell hB (World.block_lt_of_cell? _ _ x1)).trans x1, (Below.cell hB (World.block_lt_of_cell? _ _ x2)).trans x2, (Below.cell hB (World.block_lt_of_cell? _ _ q0)).trans q0, (Below.cell hB (World.block_lt_of_cell? _ _ q1)).trans q1⟩
      have HQ := Aside0.mk hq
      clear hq
      go_wp2_with (go_at_call 40; refine hfind.mono ?_; rintro e w6 ⟨rfl, hb6⟩; clear x0 x1 x2 q0 q1 hfind; obtain ⟨x0, x1, x2, q0, q1⟩ := HQ.out w6 hb6; have HB6 := Aside0.mk hb6; clear hb6)
      refine (HPATH.out w6 HB6.out).mono ?_
      rintro e w7 ⟨rfl, hb7⟩
      clear x0 x1 x2 q0 q1
      have HB7 := Aside0.mk (below_then HB6.out HB6.out.size hb7)
      obtain ⟨x0, x1, x2, q0, q1⟩ := HQ.out w7 HB7.out
      clear hb7 HB6
      have bA : Below w5.heap.size w5 (w7.alloc (.cells #[.pointer (some ⟨f 0, 0, none⟩), .pointer (some ⟨f 1, 0, none⟩), .pointer (some ⟨f 2, 0, none⟩), .pointer (some ⟨f 3, 0, none⟩), .pointer (some ⟨f 4, 0, none⟩), .pointer (some ⟨f 5, 0, none⟩), .pointer (some ⟨f 6, 0, none⟩), .pointer (some ⟨f 7, 0, none⟩)] 67)) := below_alloc HB7.out _
      obtain ⟨_, _, _, r0, r1⟩ := HQ.out _ bA
      have sA : (w7.alloc (.cells #[.pointer (some ⟨f 0, 0, none⟩), .pointer (some ⟨f 1, 0, none⟩), .pointer (some ⟨f 2, 0, none⟩), .pointer (some ⟨f 3, 0, none⟩), .pointer (some ⟨f 4, 0, none⟩), .pointer (some ⟨f 5, 0, none⟩), .pointer (some ⟨f 6, 0, none⟩), .pointer (some ⟨f 7, 0, none⟩)] 67)).heap.size = w7.heap.size + 1 := by simp
      have KA := heap_alloc_new w7 (.cells #[.pointer (some ⟨f 0, 0, none⟩), .pointer (some ⟨f 1, 0, none⟩), .pointer (some ⟨f 2, 0, none⟩), .pointer (some ⟨f 3, 0, none⟩), .pointer (some ⟨f 4, 0, none⟩), .pointer (some ⟨f 5, 0, none⟩), .pointer (some ⟨f 6, 0, none⟩), .pointer (some ⟨f 7, 0, none⟩)] 67)
      have HBA := Aside0.mk bA
      have HSA := Aside0.mk sA
      have HKA := Aside0.mk KA
      clear bA sA KA
      go_wp2_with fail
      have hb9 := heap_alloc_new (w7.alloc (.cells #[.pointer (some ⟨f 0, 0, none⟩), .pointer (some ⟨f 1, 0, none⟩), .pointer (some ⟨f 2, 0, none⟩), .pointer (some ⟨f 3, 0, none⟩), .pointer (some ⟨f 4, 0, none⟩), .pointer (some ⟨f 5, 0, none⟩), .pointer (some ⟨f 6, 0, none⟩), .pointer (some ⟨f 7, 0, none⟩)] 67)) (.cells #[.bool d.f0, .slice (some ad) ln cv, .pointer none, .pointer none, .pointer none, .pointer none, .pointer none, .pointer none, .pointer none, .pointer none] 69)
      rw [HSA.out] at hb9
      have HK9 := Aside0.mk (blk_alloc HKA.out (.cells #[.bool d.f0, .slice (some ad) ln cv, .pointer none, .pointer none, .pointer none, .pointer none, .pointer none, .pointer none, .pointer none, .pointer none] 69))
      have HB9 := Aside0.mk (below_alloc HBA.out (.cells #[.bool d.f0, .slice (some ad) ln cv, .pointer none, .pointer none, .pointer none, .pointer none, .pointer none, .pointer none, .pointer none, .pointer none] 69))
      have HZ9 := Aside0.mk (show w7.heap.size + 1 < ((w7.alloc (.cells #[.pointer (some ⟨f 0, 0, none⟩), .pointer (some ⟨f 1, 0, none⟩), .pointer (some ⟨f 2, 0, none⟩), .pointer (some ⟨f 3, 0, none⟩), .pointer (some ⟨f 4, 0, none⟩), .pointer (some ⟨f 5, 0, none⟩), .pointer (some ⟨f 6, 0, none⟩), .pointer (some ⟨f 7, 0, none⟩)] 67)).alloc (.cells #[.bool d.f0, .slice (some ad) ln cv, .pointer none, .pointer none, .pointer none, .pointer none, .pointer none, .pointer none, .pointer none, .pointer none] 69)).heap.size by simp)
      have HR9 : Aside0 (Kd.R k27 27 ((w7.alloc (.cells #[.pointer (some ⟨f 0, 0, none⟩), .pointer (some ⟨f 1, 0, none⟩), .pointer (some ⟨f 2, 0, none⟩), .pointer (some ⟨f 3, 0, none⟩), .pointer (some ⟨f 4, 0, none⟩), .pointer (some ⟨f 5, 0, none⟩), .pointer (some ⟨f 6, 0, none⟩), .pointer (some ⟨f 7, 0, none⟩)] 67)).alloc (.cells #[.bool d.f0, .slice (some ad) ln cv, .pointer none, .pointer none, .pointer none, .pointer none, .pointer none, .pointer none, .pointer none, .pointer none] 69)) 0 (fun k => O k ∨ w.heap.size ≤ k) (.slice (some ad) ln cv) d.f1) :=
        ⟨Kd.R_lower (Kd.R_mono (Kd.R_bound (Kd.R_below R5.out HB9.out)) (fun k hk => .inr (Nat.le_trans (by simp) hk.2.1))) (Nat.zero_le _)⟩
      have M9 : Aside0 (SkM ((w7.alloc (.cells #[.pointer (some ⟨f 0, 0, none⟩), .pointer (some ⟨f 1, 0, none⟩), .pointer (some ⟨f 2, 0, none⟩), .pointer (some ⟨f 3, 0, none⟩), .pointer (some ⟨f 4, 0, none⟩), .pointer (some ⟨f 5, 0, none⟩), .pointer (some ⟨f 6, 0, none⟩), .pointer (some ⟨f 7, 0, none⟩)] 67)).alloc (.cells #[.bool d.f0, .slice (some ad) ln cv, .pointer none, .pointer none, .pointer none, .pointer none, .pointer none, .pointer none, .pointer none, .pointer none] 69)) (fun k => O k ∨ w.heap.size ≤ k) p (pre ++ ⟨w7.heap.size + 1, 0, .slice (some ad) ln cv, d⟩ :: post) cc (wrap64 (bb + sz))) :=
        ⟨H5.out.fresh hb9 HB9.out (Nat.le_trans HB7.out.size (Nat.le_succ _)) (fun k hk => .inl hk) (.inr (by have := F5.out.size; have := HB7.out.size; omega)) HR9.out HLE.out⟩
      have F9 := Aside0.mk (F5.out.trans (Fr.of_below HB9.out))
      have HW7 := Aside0.mk (show w.heap.size ≤ w7.heap.size from Nat.le_trans F5.out.size HB7.out.size)
      have HP7 := Aside0.mk (show p < w7.heap.size from Nat.lt_of_lt_of_le H5.out.chain.head.lt HB7.out.size)
      clear hb9 HKA HBA HSA HB9 HR9 x0 x1 x2 q0 q1 r0 r1 HQ H5 R5 K5 F5 HPATH HB7
      generalize (w7.alloc (.cells #[.pointer (some ⟨f 0, 0, none⟩), .pointer (some ⟨f 1, 0, none⟩), .pointer (some ⟨f 2, 0, none⟩), .pointer (some ⟨f 3, 0, none⟩), .pointer (some ⟨f 4, 0, none⟩), .pointer (some ⟨f 5, 0, none⟩), .pointer (some ⟨f 6, 0, none⟩), .pointer (some ⟨f 7, 0, none⟩)] 67)).alloc (.cells #[.bool d.f0, .slice (some ad) ln cv, .pointer none, .pointer none, .pointer none, .pointer none, .pointer none, .pointer none, .pointer none, .pointer none] 69) = w9 at *
      obtain ⟨s, hs⟩ := M9.out.seed
      refine (levels_T p s w9 hs (M9.out.chain.head.thaw 10)).mono ?_
      rintro e w10 ⟨n, rfl, hn1, hn8, s', hS⟩
      have M10 := Aside0.mk ((M9.out.setS s').sim hS)
      have F10 := Aside0.mk ((F9.out.set (.inl HH.out.op) 10 (.int .u64 s')).sim hS)
      have K10 : Aside0 (w10.heap[w7.heap.size]? = some (.cells #[.pointer (some ⟨f 0, 0, none⟩), .pointer (some ⟨f 1, 0, none⟩), .pointer (some ⟨f 2, 0, none⟩), .pointer (some ⟨f 3, 0, none⟩), .pointer (some ⟨f 4, 0, none⟩), .pointer (some ⟨f 5, 0, none⟩), .pointer (some ⟨f 6, 0, none⟩), .pointer (some ⟨f 7, 0, none⟩)] 67 (0, 0))) := ⟨by rw [hS.1]; exact (Sk.heap_set_ne _ _ _ _ _ (by have := HP7.out; omega)).trans HK9.out⟩
      clear hs hS M9 F9 HK9
      go_wp2
      go_loopg [8, 65] n.toNat (fun kx _ b wr => ∃ i : Nat, b = .int .i64 i ∧ (i : Int) ≤ n ∧ n.toNat - i ≤ kx ∧ Aside0 (SkM wr (fun k => O k ∨ w.heap.size ≤ k) p (pre ++ ⟨w7.heap.size + 1, i, .slice (some ad) ln cv, d⟩ :: post) cc (wrap64 (bb + sz))) ∧ Aside0 (Fr O w wr) ∧ Aside0 (wr.heap[w7.heap.size]? = some (.cells #[.pointer (some ⟨f 0, 0, none⟩), .pointer (some ⟨f 1, 0, none⟩), .pointer (some ⟨f 2, 0, none⟩), .pointer (some ⟨f 3, 0, none⟩), .pointer (some ⟨f 4, 0, none⟩), .pointer (some ⟨f 5, 0, none⟩), .pointer (some ⟨f 6, 0, none⟩), .pointer (some ⟨f 7, 0, none⟩)] 67 (0, 0))))
      case atStart => exact ⟨0, rfl, by omega, by omega, M10, F10, K10⟩
      case round =>
        clear M10 F10 K10
        obtain ⟨i, rfl, hin, hkx, M, F, K⟩ := hrel
        by_cases hlt : (i : Int) < n
        · have hz : (0 : Int) ≤ (i : Int) := by omega
          have hz8 : (i : Int) < 8 := by omega
          have hfi : f i = Sk.lst p i pre := by rw [HF.out]
          have a1 : wr.cell? ⟨w7.heap.size, i, none⟩ = some (.pointer (some ⟨f i, 0, none⟩)) := (blk_cell K.out i).trans (arr8_at f i (by omega))
          have hlk := M.out.chain.link (u := pre) (v := ⟨w7.heap.size + 1, i, .slice (some ad) ln cv, d⟩ :: post) rfl i (by omega)
          rw [Sk.nxt_cons_miss (Nat.lt_irrefl i), ← hfi] at hlk
          have hfz := M.out.chain.thaw (u := pre) (v := ⟨w7.heap.size + 1, i, .slice (some ad) ln cv, d⟩ :: post) rfl i (2 + i)
          rw [← hfi] at hfz
          have hnl := (M.out.chain.node pre ⟨w7.heap.size + 1, i, .slice (some ad) ln cv, d⟩ post rfl).link i (by omega)
          have hnz := (M.out.chain.node pre ⟨w7.heap.size + 1, i, .slice (some ad) ln cv, d⟩ post rfl).thaw (2 + i)
          simp only [Sk.ptrAt, if_neg (Nat.lt_irrefl i)] at hnl
          have hnl : wr.cell? ⟨w7.heap.size + 1, 2 + i, none⟩ = some (.pointer none) := hnl
          have hne : f i ≠ w7.heap.size + 1 := by
            rw [hfi]
            rcases Sk.lst_mem_or (p := p) (L := i) pre with ⟨e, _⟩ | ⟨u1, m, u2, hu, hm, _, e⟩
            · rw [e]; have := HP7.out; omega
            · rw [e]; exact (Sk.nodup_mid M.out.chain.nodup).1 m (by rw [hu]; simp)
          have hne' : w7.heap.size + 1 ≠ f i := fun h => hne h.symm
          have hne1 : w7.heap.size ≠ f i := by
            rw [hfi]
            intro h
            rcases Sk.lst_mem_or (p := p) (L := i) pre with ⟨e, _⟩ | ⟨u1, m, u2, hu, hm, _, e⟩
            · rw [e] at h; have := HP7.out; omega
            · rw [e] at h
              obtain ⟨cs, hb, _⟩ := M.out.chain.node u1 m (u2 ++ ⟨w7.heap.size + 1, i, .slice (some ad) ln cv, d⟩ :: post) (by rw [hu]; simp)
              rw [← h, K.out] at hb
              injection hb with hb
              injection hb with _ hb _
              exact absurd hb (by decide)
          obtain ⟨q, hq⟩ : ∃ q, Sk.ptr (Sk.nxt i post) = .pointer q := ⟨_, rfl⟩
          rw [hq] at hlk
          have HQQ := Aside0.mk hq
          have HFI := Aside0.mk hfi
          clear hq hfi
          go_wp2
          go_region
          go_wp2
          go_roundg (n.toNat - (i + 1))
          case measure => omega
          case rel =>
            refine ⟨i + 1, by go_num, by omega, by omega, ?_, ?_, ?_⟩
            · refine ⟨?_⟩
              have G := (M.out.grow (i := i) (by omega)).sim (w1 := ((wr.setCell ⟨w7.heap.size + 1, 2 + i, none⟩ (.pointer q)).setCell ⟨f i, 2 + i, none⟩ (.pointer (some ⟨w7.heap.size + 1, 0, none⟩))).drew) (by rw [HQQ.out, ← HFI.out]; exact ⟨rfl, rfl, rfl, rfl⟩)
              exact G
            · refine ⟨((F.out.set (.inr (by have := HW7.out; omega)) _ _).set (.inl ?_) _ _).sim ⟨rfl, rfl, rfl, rfl⟩⟩
              rw [HFI.out]
              rcases Sk.lst_mem_or (p := p) (L := i) pre with ⟨e, _⟩ | ⟨u1, m, u2, hu, hm, _, e⟩
              · rw [e]; exact HH.out.op
              · rw [e]; exact HH.out.on m (by rw [hu]; simp)
            · exact ⟨(Sk.heap_set_ne _ _ _ _ _ hne1).trans ((Sk.heap_set_ne _ _ _ _ _ (by omega)).trans K.out)⟩
        · have hcc := M.out.cnt
          have hcf := M.out.chain.head.thaw 11
          go_wp2
          go_ret
          refine ⟨rfl, F.out.set (.inl HH.out.op) 11 _, ?_⟩
          unfold PutPost
          rw [← HKY.out, HNO.out]
          refine ⟨w7.heap.size + 1, i, .slice (some ad) ln cv, by omega, ?_⟩
          rw [← HSZ.out]
          exact M.out.setC _
end Go.Proofs.Ytnfliommpdjlkaa.Pr
