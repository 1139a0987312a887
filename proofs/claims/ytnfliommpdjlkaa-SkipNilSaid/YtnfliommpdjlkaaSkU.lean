/- skip.All, From; a list that isn't there (numbers of seat b) -/
import Derived.Test.YtnfliommpdjlkaaSkT
namespace Go.Proofs.Ytnfliommpdjlkaa.Pr
open Go.RowKit Go.Proofs.Ytnfliommpdjlkaa.Brid Go.Proofs.YtnfliommpdjlkaaW.PrintWords Go.Proofs.YtnfliommpdjlkaaW.PrintLast Go.Proofs.YtnfliommpdjlkaaW.PrintMore
set_option linter.unusedVariables false
set_option linter.unusedSimpArgs false
set_option maxHeartbeats 4000000
set_option maxRecDepth 100000
attribute [local go_sem] Oper.semAt_some
theorem All_T (p : Nat) (w : World) : Calls Try.prog 33 #[.pointer (some ⟨p, 0, none⟩)] w fun e w' => e = .returned (.func (.func 56) #[] #[.pointer (some ⟨w.heap.size, 0, none⟩)]) ∧ w' = w.alloc (.cells #[.pointer (some ⟨p, 0, none⟩)] 66) := by
  go_enter Try.func33, Try.ntmps33
  go_wp2_with (go_at_call 51; refine (given_T _ _).mono ?_; rintro e w' ⟨rfl, rfl⟩)
  go_ret
  exact ⟨rfl, rfl⟩
abbrev zero69 : Array Value := #[.bool false, .slice none 0 0, .pointer none, .pointer none, .pointer none, .pointer none, .pointer none, .pointer none, .pointer none, .pointer none]
theorem All_nil_T (w : World) : Calls Try.prog 33 #[.pointer none] w fun e w' => e = .returned (.func (.func 56) #[] #[.pointer (some ⟨w.heap.size + 1, 0, none⟩)]) ∧ w' = (w.alloc (.cells zero69 69)).alloc (.cells #[.pointer (some ⟨w.heap.size, 0, none⟩)] 66) := by
  go_enter Try.func33, Try.ntmps33
  go_wp2_with (go_at_call 51; refine (given_T _ _).mono ?_; rintro e w' ⟨rfl, rfl⟩)
  go_ret
  exact ⟨rfl, rfl⟩
theorem From_T (p : Nat) (k : S27) (pre post : List (Sk.Nd S25)) (w : World) (H : Sk.Chain (·.f0) 69 71 w p (pre ++ post)) (HR : RowsOk w (pre ++ post))
    (hpre : ∀ n ∈ pre, lessT (keyT n.d) k = true) (hpost : ∀ n ∈ post, lessT (keyT n.d) k = false) :
    Calls Try.prog 35 #[.pointer (some ⟨p, 0, none⟩), .agg (cellsT k)] w fun e w' => ∃ gb, e = .returned (.func (.func 56) #[] #[.pointer (some ⟨gb, 0, none⟩)]) ∧ Below w.heap.size w w' ∧ w.heap.size ≤ gb ∧ w'.heap[gb]? = some (.cells #[.pointer (some ⟨Sk.lst p 0 pre, 0, none⟩)] 66 (0, 0)) := by
  have b1 : Below w.heap.size w (w.alloc (.cells (cellsT k) 27)) := below_alloc (Below.refl _ _) _
  have hpa := path_T p k pre post (w.alloc (.cells (cellsT k) 27)) (H.keep (b1.block p H.head.lt) (fun n hn => by
      obtain ⟨a, c, hs⟩ := List.append_of_mem hn
      exact b1.block n.b (H.node a n c hs).lt)) (fun n hn => by
      obtain ⟨A, c, h1, h2, h3, h4⟩ := HR n hn
      exact ⟨A, c, h1, h2, Kd.C_below h3 b1, h4⟩) hpre hpost
  have HB := Aside0.mk b1
  have hix : ∀ w : World, (Instr.index 67 (.agg #[pathV p pre 0, pathV p pre 1, pathV p pre 2, pathV p pre 3, pathV p pre 4, pathV p pre 5, pathV p pre 6, pathV p pre 7]) (.int .i64 0)).run Try.prog w = .ok (.pointer (some ⟨Sk.lst p 0 pre, 0, none⟩)) w := fun w => idx8_T _ _ _ _ _ _ _ _ w 0 (by omega) _ rfl
  clear b1 H HR hpre hpost
  go_enter Try.func35, Try.ntmps35
  go_wp2_with (first | (go_at_call 41; refine hpa.mono ?_; rintro e w2 ⟨rfl, hb2⟩; have HB2 := Aside0.mk (below_then HB.out HB.out.size hb2); clear hb2) | (go_at_call 51; refine (given_T _ _).mono ?_; rintro e w' ⟨rfl, rfl⟩))
  go_ret
  exact ⟨w2.heap.size, rfl, below_alloc HB2.out _, HB2.out.size, heap_alloc_new _ _⟩
theorem behind_G0 (at_ bb : Nat) (X : Nat → Prop) (w : World) (h2 : w.cell? ⟨at_, 2, none⟩ = some (.pointer none)) (hb : w.heap[bb]? = some (.cells #[.pointer (some ⟨at_, 0, none⟩)] 66 (0, 0))) :
    SeqG Try.prog 60 #[.pointer (some ⟨bb, 0, none⟩)] (fun n : Nat => #[.pointer (some ⟨n, 0, none⟩)]) (fun _ _ _ => False) X (fun xs => xs = []) (fun _ => False) w := by
  intro l J Jx W hBW hZ hJ hJx hY hJ0
  refine (callsIn_wide (n := 1)).1 (callsIn_of_wp Try.func60 rfl trivial ?_ rfl)
  simp only [Try.ntmps60, List.size_toArray, List.length_cons, List.length_nil, Nat.reduceAdd, Nat.reduceSub, Array.replicate_succ, Array.replicate_zero, List.push_toArray, List.append_toArray, List.nil_append, List.cons_append]
  have hc0 := (blk_cell (blk_below hb hBW) 0).trans rfl
  have hlk := (Below.cell hBW (World.block_lt_of_cell? _ _ h2)).trans h2
  have HJ0 := Aside0.mk hJ0
  clear hJ0 hY hJ hJx hBW hb h2
  gi_wp2
  gi_loopg [3] 0 (fun kx a wr => a = .pointer none ∧ Aside0 (J [] wr))
  case atStart => exact ⟨rfl, HJ0⟩
  case round =>
    obtain ⟨rfl, HJ⟩ := hrel
    clear HJ0 hlk hc0
    gi_wp2
    refine ⟨fun _ h => (by cases h), ?_⟩
    gi_wp2
    go_end0
    exact ⟨⟨_, rfl⟩, .inl ⟨[], rfl, HJ.out⟩⟩
theorem given_G0 (at_ gb : Nat) (X : Nat → Prop) (w : World) (h2 : w.cell? ⟨at_, 2, none⟩ = some (.pointer none)) (hb : w.heap[gb]? = some (.cells #[.pointer (some ⟨at_, 0, none⟩)] 66 (0, 0))) :
    SeqG Try.prog 56 #[.pointer (some ⟨gb, 0, none⟩)] (fun x : S25 × Value => #[.agg #[.bool x.1.f0, x.2]]) (fun _ _ _ => False) X (fun xs => xs = []) (fun _ => False) w := by
  intro l J Jx W hBW hZ hJ hJx hY hJ0
  refine (callsIn_wide (n := 1)).1 (callsIn_of_wp_marks Try.func56 rfl trivial ?_ rfl)
  simp only [Try.ntmps56, List.size_toArray, List.length_cons, List.length_nil, Nat.reduceAdd, Nat.reduceSub, Array.replicate_succ, Array.replicate_zero, List.push_toArray, List.append_toArray, List.nil_append, List.cons_append]
  refine wpIn_wide.2 ?_
  have hc0 := (blk_cell (blk_alloc (blk_below hb hBW) (.cells #[.func (.yield l) #[] #[]] 32)) 0).trans rfl
  have b2 := below_then hBW hBW.size (below_alloc (below_alloc (Below.refl W.heap.size W) (.cells #[.func (.yield l) #[] #[]] 32)) (.cells #[.pointer (some ⟨at_, 0, none⟩)] 66))
  have hlk := (Below.cell b2 (World.block_lt_of_cell? _ _ h2)).trans h2
  have kb : ((W.alloc (.cells #[.func (.yield l) #[] #[]] 32)).alloc (.cells #[.pointer (some ⟨at_, 0, none⟩)] 66)).heap[W.heap.size + 1]? = some (.cells #[.pointer (some ⟨at_, 0, none⟩)] 66 (0, 0)) := by
    have := heap_alloc_new (W.alloc (.cells #[.func (.yield l) #[] #[]] 32)) (.cells #[.pointer (some ⟨at_, 0, none⟩)] 66)
    rwa [show (W.alloc (.cells #[.func (.yield l) #[] #[]] 32)).heap.size = W.heap.size + 1 by simp] at this
  have z2 : ((W.alloc (.cells #[.func (.yield l) #[] #[]] 32)).alloc (.cells #[.pointer (some ⟨at_, 0, none⟩)] 66)).heap.size = W.heap.size + 2 := by simp
  have HJ := Aside0.mk hJ
  have HJ1 := Aside0.mk (hJ [] _ _ none hJ0 (World.grownBy_alloc W (.cells #[.func (.yield l) #[] #[]] 32) none) (fun r e => by cases e))
  have HJ2 := Aside0.mk (hJ [] _ _ none HJ1.out (World.grownBy_alloc _ (.cells #[.pointer (some ⟨at_, 0, none⟩)] 66) none) (fun r e => by cases e))
  have HLK := Aside0.mk hlk
  have HKB := Aside0.mk kb
  clear hJ hJx hY hJ0 hb h2 b2 hlk kb hBW
  go_wp2_with (go_at_call 57; refine (behind_T _ _).mono ?_; rintro e w' ⟨rfl, rfl⟩)
  generalize (W.alloc (.cells #[.func (.yield l) #[] #[]] 32)).alloc (.cells #[.pointer (some ⟨at_, 0, none⟩)] 66) = w2 at *
  refine wp_rangeG (gf := 60) (lb := #[.pointer (some ⟨W.heap.size + 1, 0, none⟩)]) rfl (enters_of Try.func60 (by kernel_rfl) rfl)
    (X := fun _ => True) (behind_G0 at_ (W.heap.size + 1) (fun _ => True) w2 HLK.out HKB.out) trivial trivial (fun _ => rfl)
    (fun pre2 V => J [] V) (fun cd pre2 V => False) ?hI (fun cd s A B row h _ _ => h) HJ2.out (fun pre n a' V => False) (fun pre x a' s A B row h _ _ => h) ?assign (fun l2 pre n a' V _ h _ => h.elim) ?done (fun cd pre2 V h _ _ => h.elim)
  case hI =>
    intro s A B row h hg hr
    exact HJ.out [] A B row h hg (fun r e => ⟨by have := (hr r e).1; omega, (hr r e).2⟩)
  case assign =>
    intro l2 pre n V K hi hgood hV hK
    exact hgood.elim
  case done =>
    rintro pre2 V rfl hj hD
    have HJ3 := Aside0.mk (HJ.out [] V _ (some w2.heap.size) hj (grownBy_putObj' V w2.heap.size (.deferred none)) (fun r e => by cases e; exact ⟨by omega, _, hD, rfl⟩))
    clear hj
    go_wp2
    refine ⟨by simp, .inl ⟨_, _, rfl, run_takeDeferred hD, ?_⟩⟩
    exact ⟨_, results_none rfl _ _ _, ⟨_, rfl⟩, .inl ⟨[], rfl, HJ3.out⟩⟩
end Go.Proofs.Ytnfliommpdjlkaa.Pr
