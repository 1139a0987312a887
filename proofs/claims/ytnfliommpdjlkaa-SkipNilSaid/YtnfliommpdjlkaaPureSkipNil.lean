/- The law SkipNil: its walk. -/
import Derived.Test.YtnfliommpdjlkaaSkV
namespace Go.Proofs.Ytnfliommpdjlkaa.Pr
open Go.RowKit Go.Proofs.Ytnfliommpdjlkaa.Brid Go.Proofs.YtnfliommpdjlkaaW.PrintWords Go.Proofs.YtnfliommpdjlkaaW.PrintLast Go.Proofs.YtnfliommpdjlkaaW.PrintMore
set_option linter.unusedVariables false
set_option linter.unusedSimpArgs false
set_option maxHeartbeats 4000000
set_option maxRecDepth 100000
attribute [local go_sem] Oper.semAt_some
theorem SkipNil_walk (W : World) (x0 : S25) (A0_1 : Option Addr) (c0_1 : Nat) (hc0_1 : x0.f1.length ≤ c0_1) (hr0_1 : Kd.C k27 W A0_1 x0.f1.length x0.f1) (b0 : B25 x0 maxLen) (x1 : S27) (b1 : B27 x1 maxLen) :
    Calls Try.prog 13 #[.agg #[.bool x0.f0, .slice A0_1 x0.f1.length c0_1], .agg #[.bool x1.f0, .int .i64 x1.f1, .string x1.f2]] W fun e W' => e = .returned (.bool true) ∧ Below W.heap.size W W' := by
  have B2 := below_alloc (below_alloc (Below.refl W.heap.size W) (.cells #[.bool x0.f0, .slice A0_1 x0.f1.length c0_1] 25)) (.cells #[.bool x1.f0, .int .i64 x1.f1, .string x1.f2] 27)
  have K0 := blk_alloc (heap_alloc_new W (.cells #[.bool x0.f0, .slice A0_1 x0.f1.length c0_1] 25)) (.cells #[.bool x1.f0, .int .i64 x1.f1, .string x1.f2] 27)
  have K1 := heap_alloc_new (W.alloc (.cells #[.bool x0.f0, .slice A0_1 x0.f1.length c0_1] 25)) (.cells #[.bool x1.f0, .int .i64 x1.f1, .string x1.f2] 27)
  rw [show (W.alloc (.cells #[.bool x0.f0, .slice A0_1 x0.f1.length c0_1] 25)).heap.size = W.heap.size + 1 by simp] at K1
  have HB2 := Aside0.mk B2
  have HK0 := Aside0.mk K0
  have HK1 := Aside0.mk K1
  clear B2 K0 K1 hr0_1 b0 b1
  refine (callsIn_wide (n := 1)).1 (callsIn_of_wp_marks Try.func13 rfl trivial ?_ rfl)
  simp only [Try.ntmps13, List.size_toArray, List.length_cons, List.length_nil, Nat.reduceAdd, Nat.reduceSub, Array.replicate_succ, Array.replicate_zero, List.push_toArray, List.append_toArray, List.nil_append, List.cons_append]
  refine wpIn_wide.2 ?_
  go_wp2_with fail
  refine (lives_T _).mono ?_
  rintro e w1 ⟨rfl, hb1⟩
  have k1 := blk_below HK1.out hb1
  have q0 := (blk_cell k1 0).trans rfl
  have q1 := (blk_cell k1 1).trans rfl
  have q2 := (blk_cell k1 2).trans rfl
  have HB1 := Aside0.mk (below_then HB2.out HB2.out.size hb1)
  have HK1' := Aside0.mk (blk_below HK0.out hb1)
  clear hb1 k1 HB2 HK0 HK1
  go_wp2_with fail
  refine (Get_nil_T x1 w1).mono ?_
  rintro e w2 ⟨hb2, rfl⟩
  clear q0 q1 q2
  have HB2 := Aside0.mk (below_then HB1.out HB1.out.size hb2)
  have HK2 := Aside0.mk (blk_below HK1'.out hb2)
  clear hb2 HK1' HB1
  go_wp2_with fail
  have b3 := below_alloc (below_alloc (Below.refl w2.heap.size w2) (.cells #[.bool false, .slice none 0 0] 25)) (.cells #[.int .i64 0] 3)
  have z3 : ((w2.alloc (.cells #[.bool false, .slice none 0 0] 25)).alloc (.cells #[.int .i64 0] 3)).heap.size = w2.heap.size + 2 := by simp
  have kn := heap_alloc_new (w2.alloc (.cells #[.bool false, .slice none 0 0] 25)) (.cells #[.int .i64 0] 3)
  rw [show (w2.alloc (.cells #[.bool false, .slice none 0 0] 25)).heap.size = w2.heap.size + 1 by simp] at kn
  have HB3 := Aside0.mk (below_then HB2.out HB2.out.size b3)
  have HK3 := Aside0.mk (blk_below HK2.out b3)
  have HKN := Aside0.mk kn
  have HZ3 := Aside0.mk z3
  clear b3 kn HB2 HK2 z3
  generalize (w2.alloc (.cells #[.bool false, .slice none 0 0] 25)).alloc (.cells #[.int .i64 0] 3) = w3 at *
  refine (All_nil_T w3).mono ?_
  rintro e w4 ⟨rfl, hw4⟩
  have b4 : Below w3.heap.size w3 w4 := by rw [hw4]; exact below_alloc (below_alloc (Below.refl _ _) _) _
  have kz : w4.heap[w3.heap.size]? = some (.cells zero69 69 (0, 0)) := by rw [hw4]; exact blk_alloc (heap_alloc_new w3 _) _
  have kg : w4.heap[w3.heap.size + 1]? = some (.cells #[.pointer (some ⟨w3.heap.size, 0, none⟩)] 66 (0, 0)) := by
    have := heap_alloc_new (w3.alloc (.cells zero69 69)) (.cells #[.pointer (some ⟨w3.heap.size, 0, none⟩)] 66)
    rw [show (w3.alloc (.cells zero69 69)).heap.size = w3.heap.size + 1 by simp] at this
    rw [hw4]; exact this
  have HB4 := Aside0.mk (below_then HB3.out HB3.out.size b4)
  have HK4 := Aside0.mk (blk_below HK3.out b4)
  have HKN4 := Aside0.mk (blk_below HKN.out b4)
  have HKZ := Aside0.mk ((blk_cell kz 2).trans rfl)
  have HKG := Aside0.mk kg
  clear b4 kz kg hw4 HB3 HK3 HKN
  go_wp2
  refine wp_rangeG (gf := 56) (lb := #[.pointer (some ⟨w3.heap.size + 1, 0, none⟩)]) rfl (enters_of Try.func56 (by kernel_rfl) rfl)
    (X := fun _ => True) (given_G0 w3.heap.size (w3.heap.size + 1) (fun _ => True) w4 HKZ.out HKG.out) trivial trivial (fun _ => rfl)
    (fun pre V => V.heap[w2.heap.size + 1]? = some (.cells #[.int .i64 0] 3 (0, 0)) ∧ V.heap[W.heap.size]? = some (.cells #[.bool x0.f0, .slice A0_1 x0.f1.length c0_1] 25 (0, 0)) ∧ Below W.heap.size W V) (fun cd pre V => False)
    (OwnFrom.and ownFrom_blk (OwnFrom.and ownFrom_blk (ownFrom_below (Nat.le_refl _) HB4.out.size))) (fun cd s A B row h _ _ => h) ⟨HKN4.out, HK4.out, HB4.out⟩ (fun pre n a' V => False) (fun pre x a' s A B row h _ _ => h) (fun l2 pre n V K _ hg _ _ => hg.elim) (fun l2 pre n a' V _ h _ => h.elim) ?done (fun cd pre V _ h _ => h.elim)
  case done =>
    rintro pre V rfl ⟨hn, hd, hB⟩ hD
    have q0 := (blk_cell hn 0).trans rfl
    have d0 := (blk_cell hd 0).trans rfl
    have d1 := (blk_cell hd 1).trans rfl
    have HB := Aside0.mk hB
    have HN := Aside0.mk hn
    have HD := Aside0.mk hD
    clear hn hd hB hD HK4 HKN4 HKZ HKG
    go_wp2_with fail
    refine (Put_nil_T x0.f0 A0_1 x0.f1.length c0_1 V).mono ?_
    rintro e V2 ⟨rfl, hb2⟩
    clear q0 d0 d1
    have hn2 := blk_below HN.out hb2
    have q0 := (blk_cell hn2 0).trans rfl
    have HB2 := Aside0.mk (below_then HB.out HB.out.size hb2)
    have HD2 := Aside0.mk ((hb2.block _ (Array.getElem?_eq_some_iff.1 HD.out).1).trans HD.out)
    clear hn2 hb2
    go_wp2_with (first | (go_at_call 29; refine (Len_nil_T _).mono ?_; rintro e w8 ⟨rfl, rfl⟩) | (go_at_call 30; refine (Bytes_nil_T _).mono ?_; rintro e w8 ⟨rfl, rfl⟩))
    refine ⟨by simp, .inl ⟨_, _, rfl, run_takeDeferred HD2.out, ?_⟩⟩
    exact ⟨_, results_tmp rfl _ _ _, rfl, below_put HB2.out HB4.out.size _⟩
end Go.Proofs.Ytnfliommpdjlkaa.Pr
