/- skip: New, Put, Get, Len, Bytes (numbers of seat b) -/
import Derived.Test.YtnfliommpdjlkaaSkF
namespace Go.Proofs.Ytnfliommpdjlkaa.Pr
open Go.RowKit Go.Proofs.Ytnfliommpdjlkaa.Brid Go.Proofs.YtnfliommpdjlkaaW.PrintWords Go.Proofs.YtnfliommpdjlkaaW.PrintLast Go.Proofs.YtnfliommpdjlkaaW.PrintMore
set_option linter.unusedVariables false
set_option linter.unusedSimpArgs false
set_option maxHeartbeats 4000000
set_option maxRecDepth 100000
theorem New_T (s : Int) (w : World) : Calls Try.prog 15 #[.int .u64 s] w fun e w' => e = .returned (.pointer (some ⟨w.heap.size, 0, none⟩)) ∧ Below w.heap.size w w' ∧ SkL w' (fun k => w.heap.size ≤ k) w.heap.size [] := by
  have H : ∀ s' : Int, Aside0 (Below w.heap.size w (w.alloc (.cells #[.bool false, .slice none 0 0, .pointer none, .pointer none, .pointer none, .pointer none, .pointer none, .pointer none, .pointer none, .pointer none, .int .u64 s', .int .i64 0, .int .i64 0] 71)) ∧ SkL (w.alloc (.cells #[.bool false, .slice none 0 0, .pointer none, .pointer none, .pointer none, .pointer none, .pointer none, .pointer none, .pointer none, .pointer none, .int .u64 s', .int .i64 0, .int .i64 0] 71)) (fun k => w.heap.size ≤ k) w.heap.size []) := by
    intro s'
    have hb := heap_alloc_new w (.cells #[.bool false, .slice none 0 0, .pointer none, .pointer none, .pointer none, .pointer none, .pointer none, .pointer none, .pointer none, .pointer none, .int .u64 s', .int .i64 0, .int .i64 0] 71)
    have hd : Sk.At (w.alloc (.cells #[.bool false, .slice none 0 0, .pointer none, .pointer none, .pointer none, .pointer none, .pointer none, .pointer none, .pointer none, .pointer none, .int .u64 s', .int .i64 0, .int .i64 0] 71)) w.heap.size 71 13 (.bool false) (.slice none 0 0) 8 ([] : List (Sk.Nd S25)) := by
      refine ⟨_, hb, rfl, by omega, rfl, rfl, fun L hL => ?_⟩
      match L, hL with
      | 0, _ => rfl
      | 1, _ => rfl
      | 2, _ => rfl
      | 3, _ => rfl
      | 4, _ => rfl
      | 5, _ => rfl
      | 6, _ => rfl
      | 7, _ => rfl
    have hch : Sk.Chain (·.f0) 69 71 (w.alloc (.cells #[.bool false, .slice none 0 0, .pointer none, .pointer none, .pointer none, .pointer none, .pointer none, .pointer none, .pointer none, .pointer none, .int .u64 s', .int .i64 0, .int .i64 0] 71)) w.heap.size ([] : List (Sk.Nd S25)) :=
      ⟨hd, fun u n v h => by simp at h, fun n hn => by simp at hn, fun n hn => by simp at hn, List.Pairwise.nil⟩
    have e0 : wrap64 (bytesI (([] : List (Sk.Nd S25)).map (·.d))) = 0 := by simp [bytesI, wrap64]
    exact ⟨below_alloc (Below.refl _ _) _, ⟨hch, fun n hn => by simp at hn, fun n hn => by simp at hn, ⟨s', (blk_cell hb 10).trans rfl⟩, (blk_cell hb 11).trans rfl, by rw [e0]; exact (blk_cell hb 12).trans rfl, Nat.le_refl _, fun n hn => by simp at hn⟩, fun n hn => by simp at hn, List.Pairwise.nil⟩
  go_enter Try.func15, Try.ntmps15
  go_wp2
  go_ret
  exact ⟨rfl, (H _).out.1, (H _).out.2⟩
theorem Put_T (p : Nat) (d : S25) (A0 : Option Addr) (c0 : Nat) (ns : List (Sk.Nd S25)) (O : Nat → Prop) (w : World) (H : SkL w O p ns) (hC : Kd.C k27 w A0 d.f1.length d.f1) (hc : d.f1.length ≤ c0) (hl : 0 < d.f1.length) (hm : d.f1.length ≤ 4398046511103) (hn : ns.length < 4611686018427387904) :
    Calls Try.prog 16 #[.pointer (some ⟨p, 0, none⟩), .agg #[.bool d.f0, .slice A0 d.f1.length c0]] w fun e w' => e = .returned (.bool true) ∧ Fr O w w' ∧ ∃ ns', SkL w' (fun k => O k ∨ w.heap.size ≤ k) p ns' ∧ ns'.map (·.d) = putV (ns.map (·.d)) d := by
  have hs : ns.Pairwise (fun a b => lessT (keyT a.d) (keyT b.d) = true) := List.pairwise_map.1 H.sorted
  have e0 := pre_post (fun n : Sk.Nd S25 => keyT n.d) (keyT d) ns
  have h1 := preOf_less (fun n : Sk.Nd S25 => keyT n.d) (keyT d) ns
  have h2 := postOf_not (fun n : Sk.Nd S25 => keyT n.d) (keyT d) ns hs
  have m1 := preOf_map (keyT d) ns
  have m2 := postOf_map (keyT d) ns
  generalize preOf (fun n : Sk.Nd S25 => keyT n.d) (keyT d) ns = pre at *
  generalize postOf (fun n : Sk.Nd S25 => keyT n.d) (keyT d) ns = post at *
  subst e0
  refine (put_T p d A0 c0 pre post O _ _ w H.m h1 h2 H.pos hC hc hl hm).mono ?_
  rintro e w' ⟨he, hF, hP⟩
  refine ⟨he, hF, ?_⟩
  have hsort := putV_sorted ((pre ++ post).map (·.d)) d H.sorted
  unfold PutPost at hP
  cases hno : nodeOf (keyT d) post with
  | none =>
    rw [hno] at hP
    obtain ⟨nb, h, rv, hpos, hM⟩ := hP
    have hpv : putV ((pre ++ post).map (·.d)) d = pre.map (·.d) ++ d :: post.map (·.d) := by
      unfold putV
      rw [← m1, ← m2]
      cases post with
      | nil => rfl
      | cons n r =>
        simp only [List.map_cons]
        rw [if_pos]
        rw [nodeOf] at hno
        split at hno
        · assumption
        · cases hno
    rw [hpv] at hsort ⊢
    have hmm : (pre ++ ⟨nb, h, rv, d⟩ :: post).map (·.d) = pre.map (·.d) ++ d :: post.map (·.d) := by simp
    refine ⟨pre ++ ⟨nb, h, rv, d⟩ :: post, ⟨?_, fun n hn => ?_, by rw [hmm]; exact hsort⟩, hmm⟩
    · rw [hmm]
      have e1 : wrap64 (((pre ++ post).length : Int) + 1) = (((pre ++ ({ b := nb, h := h, v := rv, d := d } : Sk.Nd S25) :: post).length : Nat) : Int) := by
        simp only [List.length_append, List.length_cons] at *
        unfold wrap64
        omega
      have e2 : wrap64 (wrap64 (bytesI ((pre ++ post).map (·.d))) + sizeI d.f1) = wrap64 (bytesI (pre.map (·.d) ++ d :: post.map (·.d))) := by
        rw [wrap_wrap_add, List.map_append, bytesI_app, bytesI_app, bytesI_cons]
        congr 1
        omega
      rw [← e1, ← e2]
      exact hM
    · rcases List.mem_append.1 hn with k | k
      · exact H.pos n (List.mem_append_left _ k)
      · rcases List.mem_cons.1 k with rfl | k
        · exact hpos
        · exact H.pos n (List.mem_append_right _ k)
  | some nb =>
    rw [hno] at hP
    obtain ⟨n, r, rv, rfl, hM⟩ := hP
    have hpv : putV ((pre ++ n :: r).map (·.d)) d = pre.map (·.d) ++ d :: r.map (·.d) := by
      unfold putV
      rw [← m1, ← m2]
      simp only [List.map_cons]
      rw [if_neg]
      rw [nodeOf] at hno
      split at hno
      · cases hno
      · assumption
    rw [hpv] at hsort ⊢
    have hmm : (pre ++ ({ b := n.b, h := n.h, v := rv, d := d } : Sk.Nd S25) :: r).map (·.d) = pre.map (·.d) ++ d :: r.map (·.d) := by simp
    refine ⟨pre ++ ⟨n.b, n.h, rv, d⟩ :: r, ⟨?_, fun m hm => ?_, by rw [hmm]; exact hsort⟩, hmm⟩
    · rw [hmm]
      have e1 : (((pre ++ n :: r).length : Nat) : Int) = (((pre ++ ({ b := n.b, h := n.h, v := rv, d := d } : Sk.Nd S25) :: r).length : Nat) : Int) := by simp
      have e2 : wrap64 (wrap64 (bytesI ((pre ++ n :: r).map (·.d))) + sizeI d.f1 - sizeI n.d.f1) = wrap64 (bytesI (pre.map (·.d) ++ d :: r.map (·.d))) := by
        rw [Int.add_sub_assoc, wrap_wrap_add, List.map_append, bytesI_app, bytesI_app, List.map_cons, bytesI_cons, bytesI_cons]
        congr 1
        omega
      rw [← e1, ← e2]
      exact hM
    · rcases List.mem_append.1 hm with k | k
      · exact H.pos m (List.mem_append_left _ k)
      · rcases List.mem_cons.1 k with rfl | k
        · exact H.pos n (by simp)
        · exact H.pos m (List.mem_append_right _ (List.mem_cons_of_mem _ k))
theorem Put_empty_T (p : Option Addr) (g : Bool) (A0 : Option Addr) (c0 : Nat) (w : World) : Calls Try.prog 16 #[.pointer p, .agg #[.bool g, .slice A0 0 c0]] w fun e w' => e = .returned (.bool false) ∧ Below w.heap.size w w' := by
  have hb : Below w.heap.size w (w.alloc (.cells #[.bool g, .slice A0 0 c0] 25)) := below_alloc (Below.refl _ _) _
  have HB := Aside0.mk hb
  clear hb
  cases p with
  | none =>
    go_enter Try.func16, Try.ntmps16
    go_wp2
    go_ret
    exact ⟨rfl, HB.out⟩
  | some a =>
    go_enter Try.func16, Try.ntmps16
    go_wp2
    go_ret
    exact ⟨rfl, HB.out⟩
theorem Put_nil_T (g : Bool) (A0 : Option Addr) (n c0 : Nat) (w : World) : Calls Try.prog 16 #[.pointer none, .agg #[.bool g, .slice A0 n c0]] w fun e w' => e = .returned (.bool false) ∧ Below w.heap.size w w' := by
  have hb : Below w.heap.size w (w.alloc (.cells #[.bool g, .slice A0 n c0] 25)) := below_alloc (Below.refl _ _) _
  have HB := Aside0.mk hb
  clear hb
  go_enter Try.func16, Try.ntmps16
  go_wp2
  go_ret
  exact ⟨rfl, HB.out⟩
theorem Len_T (p : Nat) (ns : List (Sk.Nd S25)) (O : Nat → Prop) (w : World) (H : SkL w O p ns) : Calls Try.prog 29 #[.pointer (some ⟨p, 0, none⟩)] w fun e w' => e = .returned (.int .i64 ns.length) ∧ w' = w := by
  have hc := H.m.cnt
  go_enter Try.func29, Try.ntmps29
  go_wp2
  go_ret
  exact ⟨rfl, rfl⟩
theorem Len_nil_T (w : World) : Calls Try.prog 29 #[.pointer none] w fun e w' => e = .returned (.int .i64 0) ∧ w' = w := by
  go_enter Try.func29, Try.ntmps29
  go_wp2
  go_ret
  exact ⟨rfl, rfl⟩
theorem Bytes_T (p : Nat) (ns : List (Sk.Nd S25)) (O : Nat → Prop) (w : World) (H : SkL w O p ns) : Calls Try.prog 30 #[.pointer (some ⟨p, 0, none⟩)] w fun e w' => e = .returned (.int .i64 (wrap64 (bytesI (ns.map (·.d))))) ∧ w' = w := by
  have hc := H.m.byt
  go_enter Try.func30, Try.ntmps30
  go_wp2
  go_ret
  exact ⟨rfl, rfl⟩
theorem Bytes_nil_T (w : World) : Calls Try.prog 30 #[.pointer none] w fun e w' => e = .returned (.int .i64 0) ∧ w' = w := by
  go_enter Try.func30, Try.ntmps30
  go_wp2
  go_ret
  exact ⟨rfl, rfl⟩
/-- the deed of a key -/
def getV (ds : List S25) (k : S27) : Option S25 := match postOf keyT k ds with | [] => none | e :: _ => if lessT k (keyT e) = true then none else some e
/-- what Get hands back -/
def GetR (o : Option S25) (w w' : World) (e : Ending) : Prop := match o with
  | none => e = .returned (.tuple #[.agg #[.bool false, .slice none 0 0], .bool false])
  | some d => ∃ v : Value, e = .returned (.tuple #[.agg #[.bool d.f0, v], .bool true]) ∧ Kd.R k27 27 w' w.heap.size (fun _ => True) v d.f1
theorem own_T (g : Bool) (A : Option Addr) (c : Nat) (l : List S27) (w : World) (h : Kd.C k27 w A l.length l) (hc : l.length ≤ c) (hm : l.length ≤ 4398046511103) :
    Calls Try.prog 43 #[.agg #[.bool g, .slice A l.length c]] w fun e w' => ∃ v : Value, e = .returned (.agg #[.bool g, v]) ∧ Kd.R k27 27 w' w.heap.size (fun _ => True) v l ∧ Below w.heap.size w w' :=
  skip_own.calls g A c l g l w h hc (by unfold skip_own.f cloneR.f; rw [if_pos hm]; rfl)
theorem Get_T (p : Nat) (k : S27) (ns : List (Sk.Nd S25)) (O : Nat → Prop) (w : World) (H : SkL w O p ns) (hm : ∀ n ∈ ns, n.d.f1.length ≤ 4398046511103) :
    Calls Try.prog 17 #[.pointer (some ⟨p, 0, none⟩), .agg (cellsT k)] w fun e w' => Below w.heap.size w w' ∧ GetR (getV (ns.map (·.d)) k) w w' e := by
  have hs : ns.Pairwise (fun a b => lessT (keyT a.d) (keyT b.d) = true) := List.pairwise_map.1 H.sorted
  have e0 := pre_post (fun n : Sk.Nd S25 => keyT n.d) k ns
  have h1 := preOf_less (fun n : Sk.Nd S25 => keyT n.d) k ns
  have h2 := postOf_not (fun n : Sk.Nd S25 => keyT n.d) k ns hs
  have m2 := postOf_map k ns
  have hgv : getV (ns.map (·.d)) k = (match (postOf (fun n : Sk.Nd S25 => keyT n.d) k ns).map (·.d) with | [] => none | e :: _ => if lessT k (keyT e) = true then none else some e) := by unfold getV; rw [← m2]
  obtain ⟨gv, hgd⟩ : ∃ gv, gv = getV (ns.map (·.d)) k := ⟨_, rfl⟩
  rw [← hgd] at hgv ⊢
  clear hgd
  generalize preOf (fun n : Sk.Nd S25 => keyT n.d) k ns = pre at *
  generalize postOf (fun n : Sk.Nd S25 => keyT n.d) k ns = post at *
  subst e0
  have b1 : Below w.heap.size w (w.alloc (.cells (cellsT k) 27)) := below_alloc (Below.refl _ _) _
  have b2 : Below w.heap.size w ((w.alloc (.cells (cellsT k) 27)).alloc (.cells #[.bool false, .slice none 0 0] 25)) := below_alloc b1 _
  have K1 := blk_alloc (heap_alloc_new w (.cells (cellsT k) 27)) (.cells #[.bool false, .slice none 0 0] 25)
  have K2 := heap_alloc_new (w.alloc (.cells (cellsT k) 27)) (.cells #[.bool false, .slice none 0 0] 25)
  rw [show (w.alloc (.cells (cellsT k) 27)).heap.size = w.heap.size + 1 by simp] at K2
  have HW := H.below b2
  have hfind := find_T p k pre post _ HW.m.chain HW.m.rowsOk h1 h2 H.pos
  have HH := Aside0.mk HW
  have HB2 := Aside0.mk b2
  have HK2 := Aside0.mk K2
  have HM := Aside0.mk hm
  clear HW H b1 b2 K1 K2 hm h1 h2 m2 hs
  cases hno : nodeOf k post with
  | none =>
    rw [hno] at hfind
    have hfind : Calls Try.prog 40 #[.pointer (some ⟨p, 0, none⟩), .agg (cellsT k)] _ fun e w' => e = .returned (.pointer none) ∧ Below _ _ w' := hfind
    have HG : gv = none := by
      rw [hgv]
      cases post with
      | nil => rfl
      | cons n r =>
        rw [nodeOf] at hno
        split at hno
        · simp only [List.map_cons]; rw [if_pos (by assumption)]
        · cases hno
    clear hgv
    subst HG
    clear hno
    go_enter Try.func17, Try.ntmps17
    go_wp2_with (go_at_call 40; refine hfind.mono ?_; rintro e w2 ⟨rfl, hb2⟩; have hK := blk_below HK2.out hb2; have q0 := (blk_cell hK 0).trans rfl; have q1 := (blk_cell hK 1).trans rfl; have f0 := blk_frozen hK 0; have f1 := blk_frozen hK 1; have HKK := Aside0.mk hK; have HB3 := Aside0.mk (below_then HB2.out HB2.out.size hb2); clear hK hb2)
    have HE := blk_set (blk_set HKK.out 0 (.bool false)) 1 (.slice none 0 0)
    refine bodyPost_ret (results_ct rfl _ _ (w.heap.size + 1) 25 _ (0, 0) _ rfl HE Try.underlying25 rfl (by kernel_rfl)) rfl ⟨below_set (below_set HB3.out (Nat.le_succ _)) (Nat.le_succ _), ?_⟩
    rfl
  | some nb =>
    obtain ⟨n, r, hpost, hnb, hnl⟩ : ∃ n r, post = n :: r ∧ n.b = nb ∧ lessT k (keyT n.d) = false := by
      cases post with
      | nil => cases hno
      | cons n r =>
        rw [nodeOf] at hno
        split at hno
        · cases hno
        · rename_i h
          exact ⟨n, r, rfl, Option.some.inj hno, by simpa using h⟩
    subst hnb
    rw [hno] at hfind
    have hfind : Calls Try.prog 40 #[.pointer (some ⟨p, 0, none⟩), .agg (cellsT k)] _ fun e w' => e = .returned (.pointer (some ⟨n.b, 0, none⟩)) ∧ Below _ _ w' := hfind
    have HG : gv = some n.d := by
      rw [hgv, hpost]
      simp only [List.map_cons]
      rw [if_neg (by rw [hnl]; exact Bool.false_ne_true)]
    clear hgv
    subst HG
    have hm5 : n ∈ pre ++ post := by rw [hpost]; simp
    have hml := HM.out n hm5
    have hrest : ∀ w2 : World, Below ((w.alloc (.cells (cellsT k) 27)).alloc (.cells #[.bool false, .slice none 0 0] 25)).heap.size ((w.alloc (.cells (cellsT k) 27)).alloc (.cells #[.bool false, .slice none 0 0] 25)) w2 →
        ∃ A c, w2.cell? ⟨n.b, 0, none⟩ = some (.bool n.d.f0) ∧ w2.cell? ⟨n.b, 1, none⟩ = some (.slice A n.d.f1.length c) ∧ (Calls Try.prog 43 #[.agg #[.bool n.d.f0, .slice A n.d.f1.length c]] w2 fun e w' => ∃ v : Value, e = .returned (.agg #[.bool n.d.f0, v]) ∧ Kd.R k27 27 w' w2.heap.size (fun _ => True) v n.d.f1 ∧ Below w2.heap.size w2 w') := by
      intro w2 hb
      have H2 := HH.out.below hb
      obtain ⟨A, c, hv, hcc, hC, hln⟩ := H2.m.rowsOk n hm5
      obtain ⟨ns1, ns2, hsp⟩ := List.append_of_mem hm5
      have hn0 := (H2.m.chain.node ns1 n ns2 hsp).c0
      have hn1 := (H2.m.chain.node ns1 n ns2 hsp).c1
      rw [hv] at hn1
      exact ⟨some A, c, hn0, hn1, own_T n.d.f0 (some A) c n.d.f1 w2 hC hcc hml⟩
    have HRE := Aside0.mk hrest
    clear hno hrest hm5 hml hnl hpost
    go_enter Try.func17, Try.ntmps17
    go_wp2_with (go_at_call 40; refine hfind.mono ?_; rintro e w2 ⟨rfl, hb2⟩; obtain ⟨A, c, x0, x1, hown⟩ := HRE.out w2 hb2; have HKK := Aside0.mk (blk_below HK2.out hb2); have HB3 := Aside0.mk (below_then HB2.out HB2.out.size hb2); clear hb2)
    refine hown.mono ?_
    rintro e w3 ⟨v, rfl, hR, hb3⟩
    obtain ⟨Av, cv, hv⟩ := Kd.R_slice hR
    subst hv
    have hK := blk_below HKK.out hb3
    have q0 := (blk_cell hK 0).trans rfl
    have q1 := (blk_cell hK 1).trans rfl
    have f0 := blk_frozen hK 0
    have f1 := blk_frozen hK 1
    have HK3 := Aside0.mk hK
    have HR3 := Aside0.mk hR
    have HB4 := Aside0.mk (below_then HB3.out HB3.out.size hb3)
    have HSZ := Aside0.mk (show w.heap.size + 2 ≤ w2.heap.size from Nat.le_trans (by simp) (show ((w.alloc (.cells (cellsT k) 27)).alloc (.cells #[.bool false, .slice none 0 0] 25)).heap.size ≤ w2.heap.size from by
      have := (Array.getElem?_eq_some_iff.1 HKK.out).1; have h2 := HB3.out.size; simp; omega))
    clear hK hR hb3 hown x0 x1
    go_wp2
    have HE := blk_set (blk_set HK3.out 0 (.bool n.d.f0)) 1 (.slice Av n.d.f1.length cv)
    refine bodyPost_ret (results_ct rfl _ _ (w.heap.size + 1) 25 _ (0, 0) _ rfl HE Try.underlying25 rfl (by kernel_rfl)) rfl ⟨below_set (below_set HB4.out (Nat.le_succ _)) (Nat.le_succ _), ?_⟩
    refine ⟨.slice Av n.d.f1.length cv, rfl, ?_⟩
    have hb5 : ∃ cs, (w3.setCell ⟨w.heap.size + 1, 0, none⟩ (.bool n.d.f0)).heap[w.heap.size + 1]? = some (.cells cs 25 (0, 0)) := ⟨_, blk_set HK3.out 0 _⟩
    exact Kd.R_lower (R_setT (R_setT HR3.out ⟨_, HK3.out⟩ (by decide) _ _) hb5 (by decide) _ _) (by have := HSZ.out; omega)
theorem Get_nil_T (k : S27) (w : World) : Calls Try.prog 17 #[.pointer none, .agg (cellsT k)] w fun e w' => Below w.heap.size w w' ∧ e = .returned (.tuple #[.agg #[.bool false, .slice none 0 0], .bool false]) := by
  have b1 : Below w.heap.size w (w.alloc (.cells (cellsT k) 27)) := below_alloc (Below.refl _ _) _
  have b2 : Below w.heap.size w ((w.alloc (.cells (cellsT k) 27)).alloc (.cells #[.bool false, .slice none 0 0] 25)) := below_alloc b1 _
  have K2 := heap_alloc_new (w.alloc (.cells (cellsT k) 27)) (.cells #[.bool false, .slice none 0 0] 25)
  rw [show (w.alloc (.cells (cellsT k) 27)).heap.size = w.heap.size + 1 by simp] at K2
  have hfind := find_nil_T k ((w.alloc (.cells (cellsT k) 27)).alloc (.cells #[.bool false, .slice none 0 0] 25))
  have HB2 := Aside0.mk b2
  have HK2 := Aside0.mk K2
  clear b1 b2 K2
  go_enter Try.func17, Try.ntmps17
  go_wp2_with (go_at_call 40; refine hfind.mono ?_; rintro e w2 ⟨rfl, hb2⟩; have hK := blk_below HK2.out hb2; have q0 := (blk_cell hK 0).trans rfl; have q1 := (blk_cell hK 1).trans rfl; have f0 := blk_frozen hK 0; have f1 := blk_frozen hK 1; have HKK := Aside0.mk hK; have HB3 := Aside0.mk (below_then HB2.out HB2.out.size hb2); clear hK hb2)
  have HE := blk_set (blk_set HKK.out 0 (.bool false)) 1 (.slice none 0 0)
  exact bodyPost_ret (results_ct rfl _ _ (w.heap.size + 1) 25 _ (0, 0) _ rfl HE Try.underlying25 rfl (by kernel_rfl)) rfl ⟨below_set (below_set HB3.out (Nat.le_succ _)) (Nat.le_succ _), rfl⟩
end Go.Proofs.Ytnfliommpdjlkaa.Pr
