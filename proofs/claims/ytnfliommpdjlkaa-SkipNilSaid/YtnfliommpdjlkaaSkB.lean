/- skip: find (numbers of seat b) -/
import Derived.Test.YtnfliommpdjlkaaSkA
import Derived.Test.YtnfliommpdjlkaaPrf39
import Derived.Test.YtnfliommpdjlkaaPrf43
import Derived.Test.YtnfliommpdjlkaaPrf18
namespace Go.Proofs.Ytnfliommpdjlkaa.Pr
open Go.RowKit Go.Proofs.Ytnfliommpdjlkaa.Brid Go.Proofs.YtnfliommpdjlkaaW.PrintWords Go.Proofs.YtnfliommpdjlkaaW.PrintLast Go.Proofs.YtnfliommpdjlkaaW.PrintMore
set_option linter.unusedVariables false
set_option linter.unusedSimpArgs false
set_option maxHeartbeats 4000000
set_option maxRecDepth 100000
/-- the node of a key, in what isn't ahead of it -/
def nodeOf (k : S27) : List (Sk.Nd S25) → Option Nat
  | [] => none
  | n :: _ => if lessT k (keyT n.d) = true then none else some n.b
theorem find_nil_T (k : S27) (w : World) : Calls Try.prog 40 #[.pointer none, .agg (cellsT k)] w fun e w' => e = .returned (.pointer none) ∧ Below w.heap.size w w' := by
  have hb : Below w.heap.size w (w.alloc (.cells (cellsT k) 27)) := below_alloc (Below.refl _ _) _
  have HB := Aside0.mk hb
  clear hb
  go_enter Try.func40, Try.ntmps40
  go_wp2
  go_ret
  exact ⟨rfl, HB.out⟩
theorem idx8_T (v0 v1 v2 v3 v4 v5 v6 v7 : Value) (w : World) (L : Nat) (hL : L < 8) (r : Value) (hr : #[v0, v1, v2, v3, v4, v5, v6, v7][L]? = some r) : (Instr.index 67 (.agg #[v0, v1, v2, v3, v4, v5, v6, v7]) (.int .i64 (L : Int))).run Try.prog w = .ok r w := by
  match L, hL with
  | 0, _ => obtain rfl : v0 = r := by simpa using hr
            show (Instr.index 67 (.agg #[v0, v1, v2, v3, v4, v5, v6, v7]) (.int .i64 0)).run Try.prog w = .ok v0 w
            kernel_rfl
  | 1, _ => obtain rfl : v1 = r := by simpa using hr
            show (Instr.index 67 (.agg #[v0, v1, v2, v3, v4, v5, v6, v7]) (.int .i64 1)).run Try.prog w = .ok v1 w
            kernel_rfl
  | 2, _ => obtain rfl : v2 = r := by simpa using hr
            show (Instr.index 67 (.agg #[v0, v1, v2, v3, v4, v5, v6, v7]) (.int .i64 2)).run Try.prog w = .ok v2 w
            kernel_rfl
  | 3, _ => obtain rfl : v3 = r := by simpa using hr
            show (Instr.index 67 (.agg #[v0, v1, v2, v3, v4, v5, v6, v7]) (.int .i64 3)).run Try.prog w = .ok v3 w
            kernel_rfl
  | 4, _ => obtain rfl : v4 = r := by simpa using hr
            show (Instr.index 67 (.agg #[v0, v1, v2, v3, v4, v5, v6, v7]) (.int .i64 4)).run Try.prog w = .ok v4 w
            kernel_rfl
  | 5, _ => obtain rfl : v5 = r := by simpa using hr
            show (Instr.index 67 (.agg #[v0, v1, v2, v3, v4, v5, v6, v7]) (.int .i64 5)).run Try.prog w = .ok v5 w
            kernel_rfl
  | 6, _ => obtain rfl : v6 = r := by simpa using hr
            show (Instr.index 67 (.agg #[v0, v1, v2, v3, v4, v5, v6, v7]) (.int .i64 6)).run Try.prog w = .ok v6 w
            kernel_rfl
  | 7, _ => obtain rfl : v7 = r := by simpa using hr
            show (Instr.index 67 (.agg #[v0, v1, v2, v3, v4, v5, v6, v7]) (.int .i64 7)).run Try.prog w = .ok v7 w
            kernel_rfl
theorem find_T (p : Nat) (k : S27) (pre post : List (Sk.Nd S25)) (w : World) (H : Sk.Chain (·.f0) 69 71 w p (pre ++ post)) (HR : RowsOk w (pre ++ post))
    (hpre : ∀ n ∈ pre, lessT (keyT n.d) k = true) (hpost : ∀ n ∈ post, lessT (keyT n.d) k = false) (hh : ∀ n ∈ pre ++ post, 0 < n.h) :
    Calls Try.prog 40 #[.pointer (some ⟨p, 0, none⟩), .agg (cellsT k)] w fun e w' => e = .returned (Sk.ptr (nodeOf k post)) ∧ Below w.heap.size w w' := by
  have b1 : Below w.heap.size w (w.alloc (.cells (cellsT k) 27)) := below_alloc (Below.refl _ _) _
  have K0 : (w.alloc (.cells (cellsT k) 27)).heap[w.heap.size]? = some (.cells (cellsT k) 27 (0, 0)) := heap_alloc_new w _
  have hpa := path_T p k pre post (w.alloc (.cells (cellsT k) 27)) (H.keep (b1.block p H.head.lt) (fun n hn => by
      obtain ⟨a, c, hs⟩ := List.append_of_mem hn
      exact b1.block n.b (H.node a n c hs).lt)) (fun n hn => by
      obtain ⟨A, c, h1, h2, h3, h4⟩ := HR n hn
      exact ⟨A, c, h1, h2, Kd.C_below h3 b1, h4⟩) hpre hpost
  have HB := Aside0.mk b1
  have HK0 := Aside0.mk K0
  have HH := Aside0.mk H
  have HHR := Aside0.mk HR
  have HPOST := Aside0.mk hpost
  have HG := Aside0.mk hh
  clear b1 K0 H HR hpost hpre hh
  go_enter Try.func40, Try.ntmps40
  have hix : ∀ w : World, (Instr.index 67 (.agg #[pathV p pre 0, pathV p pre 1, pathV p pre 2, pathV p pre 3, pathV p pre 4, pathV p pre 5, pathV p pre 6, pathV p pre 7]) (.int .i64 0)).run Try.prog w = .ok (.pointer (some ⟨Sk.lst p 0 pre, 0, none⟩)) w := fun w => idx8_T _ _ _ _ _ _ _ _ w 0 (by omega) _ rfl
  have hlk := HH.out.link (u := pre) (v := post) rfl 0 (by omega)
  have hlk1 := (Below.cell HB.out (World.block_lt_of_cell? _ _ hlk)).trans hlk
  have hlk2 : ∀ w2, Below (w.alloc (.cells (cellsT k) 27)).heap.size (w.alloc (.cells (cellsT k) 27)) w2 → w2.cell? ⟨Sk.lst p 0 pre, 2, none⟩ = some (Sk.ptr (Sk.nxt 0 post)) := fun w2 hb => (Below.cell hb (World.block_lt_of_cell? _ _ hlk1)).trans hlk1
  clear hlk hlk1
  cases post with
  | nil =>
    go_wp2_with (go_at_call 41; refine hpa.mono ?_; rintro e w2 ⟨rfl, hb2⟩; have hl : w2.cell? ⟨Sk.lst p 0 pre, 2, none⟩ = some (.pointer none) := hlk2 w2 hb2; have HB2 := Aside0.mk (below_then HB.out HB.out.size hb2); clear hlk2)
    refine wp_region_quiet_some mixed_T (by kernel_rfl) ?_
    repeat (go_big_quiet_step (fail))
    refine wpQuiet_nil ?_
    intro w3 hw'
    obtain ⟨p_, hp_⟩ := hw'
    have HB3 : Aside0 (Below w.heap.size w w3) := by rw [hp_]; exact ⟨below_then HB2.out HB2.out.size p_.h⟩
    clear hp_ p_ HB2 hl
    go_wp2
    go_ret
    exact ⟨rfl, HB3.out⟩
  | cons n r =>
    have hn0 : 0 < n.h := HG.out n (by simp)
    have hmem : n ∈ pre ++ n :: r := by simp
    obtain ⟨A, c, hnv, hlc, hlen, _⟩ := HHR.out.at (Below.refl _ w) hmem
    have hlenN : 0 < n.d.f1.length := by omega
    have hrow := (HH.out.node pre n r rfl).c1
    rw [hnv] at hrow
    have HX := Aside0.mk hrow
    have hcmp := cmp_T (keyT n.d) k
    have hle : lessT (keyT n.d) k = false := HPOST.out n (by simp)
    have HAT := Aside0.mk (fun w2 (hb : Below w.heap.size w w2) => (HHR.out.at hb hmem))
    clear hrow
    have hres : ∀ w2 : World, Below w.heap.size w w2 → Below (w.alloc (.cells (cellsT k) 27)).heap.size (w.alloc (.cells (cellsT k) 27)) w2 → w2.cell? A = some (.bool (keyT n.d).f0) ∧ w2.cell? ⟨A.block, A.off + 1, none⟩ = some (.int .i64 (keyT n.d).f1) ∧ w2.cell? ⟨A.block, A.off + 2, none⟩ = some (.string (keyT n.d).f2) ∧ w2.cell? ⟨n.b, 1, none⟩ = some (.slice (some A) n.d.f1.length c)
        ∧ w2.cell? ⟨w.heap.size, 0, none⟩ = some (.bool k.f0) ∧ w2.cell? ⟨w.heap.size, 1, none⟩ = some (.int .i64 k.f1) ∧ w2.cell? ⟨w.heap.size, 2, none⟩ = some (.string k.f2) := by
      intro w2 hb hb'
      obtain ⟨A', c', hv', _, _, y0, y1, y2⟩ := HAT.out w2 hb
      rw [hnv] at hv'
      cases hv'
      have K := blk_below HK0.out hb'
      exact ⟨y0, y1, y2, (Below.cell hb (World.block_lt_of_cell? _ _ HX.out)).trans HX.out, (blk_cell K 0).trans rfl, (blk_cell K 1).trans rfl, (blk_cell K 2).trans rfl⟩
    clear hnv hlc HAT
    generalize n.d.f1.length = ln at hlen hlenN hres HX
    cases hg : lessT k (keyT n.d) with
    | true =>
      have hne : ¬ Thy.cmpV (keyT n.d).f0 (keyT n.d).f1 (keyT n.d).f2 k.f0 k.f1 k.f2 = 0 := fun h => by have := Thy.cmpV_gt.2 hg; omega
      have hneb : (Thy.cmpV (keyT n.d).f0 (keyT n.d).f1 (keyT n.d).f2 k.f0 k.f1 k.f2 == 0) = false := beq_eq_false_iff_ne.2 hne
      have hned := decide_eq_false hne
      have HGV : Aside0 (nodeOf k (n :: r) = none) := ⟨by rw [nodeOf, if_pos hg]⟩
      generalize keyT n.d = y at hcmp hres hne hneb hned
      generalize Thy.cmpV y.f0 y.f1 y.f2 k.f0 k.f1 k.f2 = cv at hcmp hne hneb hned
      go_wp2_with (go_at_call 41; refine hpa.mono ?_; rintro e w2 ⟨rfl, hb2⟩; have hl : w2.cell? ⟨Sk.lst p 0 pre, 2, none⟩ = some (.pointer (some ⟨n.b, 0, none⟩)) := (hlk2 w2 hb2).trans (by rw [Sk.nxt_cons_hit hn0]; rfl); have HB2 := Aside0.mk (below_then HB.out HB.out.size hb2); obtain ⟨x0, x1, x2, x3, y0, y1, y2⟩ := hres w2 HB2.out hb2; clear hlk2 hres hb2)
      have L1 : ∀ s : SomeW w2, s.W.cell? ⟨n.b, 1, none⟩ = some (.slice (some A) ln c) := fun s => cell_some x3 s
      have X0 : ∀ s : SomeW w2, s.W.cell? A = some (.bool y.f0) := fun s => cell_some x0 s
      have X1 : ∀ s : SomeW w2, s.W.cell? ⟨A.block, A.off + 1, none⟩ = some (.int .i64 y.f1) := fun s => cell_some x1 s
      have X2 : ∀ s : SomeW w2, s.W.cell? ⟨A.block, A.off + 2, none⟩ = some (.string y.f2) := fun s => cell_some x2 s
      have Y0 : ∀ s : SomeW w2, s.W.cell? ⟨w.heap.size, 0, none⟩ = some (.bool k.f0) := fun s => cell_some y0 s
      have Y1 : ∀ s : SomeW w2, s.W.cell? ⟨w.heap.size, 1, none⟩ = some (.int .i64 k.f1) := fun s => cell_some y1 s
      have Y2 : ∀ s : SomeW w2, s.W.cell? ⟨w.heap.size, 2, none⟩ = some (.string k.f2) := fun s => cell_some y2 s
      clear x0 x1 x2 x3 y0 y1 y2
      refine wp_region_quiet_some mixed_T (by kernel_rfl) ?_
      repeat (go_big_quiet_step (first | (go_at_call 45; refine Calls.below_some (hcmp _))))
      refine wpQuiet_nil ?_
      intro w3 hw'
      obtain ⟨p_, hp_⟩ := hw'
      have HB3 : Aside0 (Below w.heap.size w w3) := by rw [hp_]; exact ⟨below_then HB2.out HB2.out.size p_.h⟩
      clear hp_ p_ HB2 hl L1 X0 X1 X2 Y0 Y1 Y2
      go_wp2
      go_ret
      exact ⟨by rw [HGV.out]; rfl, HB3.out⟩
    | false =>
      have hne : Thy.cmpV (keyT n.d).f0 (keyT n.d).f1 (keyT n.d).f2 k.f0 k.f1 k.f2 = 0 := by
        unfold lessT at hg hle
        unfold Thy.cmpV; rw [hg, hle]; rfl
      have HGV : Aside0 (nodeOf k (n :: r) = some n.b) := ⟨by rw [nodeOf, if_neg (by rw [hg]; exact Bool.false_ne_true)]⟩
      rw [hne] at hcmp
      clear hne
      generalize keyT n.d = y at hcmp hres
      go_wp2_with (go_at_call 41; refine hpa.mono ?_; rintro e w2 ⟨rfl, hb2⟩; have hl : w2.cell? ⟨Sk.lst p 0 pre, 2, none⟩ = some (.pointer (some ⟨n.b, 0, none⟩)) := (hlk2 w2 hb2).trans (by rw [Sk.nxt_cons_hit hn0]; rfl); have HB2 := Aside0.mk (below_then HB.out HB.out.size hb2); obtain ⟨x0, x1, x2, x3, y0, y1, y2⟩ := hres w2 HB2.out hb2; clear hlk2 hres hb2)
      have L1 : ∀ s : SomeW w2, s.W.cell? ⟨n.b, 1, none⟩ = some (.slice (some A) ln c) := fun s => cell_some x3 s
      have X0 : ∀ s : SomeW w2, s.W.cell? A = some (.bool y.f0) := fun s => cell_some x0 s
      have X1 : ∀ s : SomeW w2, s.W.cell? ⟨A.block, A.off + 1, none⟩ = some (.int .i64 y.f1) := fun s => cell_some x1 s
      have X2 : ∀ s : SomeW w2, s.W.cell? ⟨A.block, A.off + 2, none⟩ = some (.string y.f2) := fun s => cell_some x2 s
      have Y0 : ∀ s : SomeW w2, s.W.cell? ⟨w.heap.size, 0, none⟩ = some (.bool k.f0) := fun s => cell_some y0 s
      have Y1 : ∀ s : SomeW w2, s.W.cell? ⟨w.heap.size, 1, none⟩ = some (.int .i64 k.f1) := fun s => cell_some y1 s
      have Y2 : ∀ s : SomeW w2, s.W.cell? ⟨w.heap.size, 2, none⟩ = some (.string k.f2) := fun s => cell_some y2 s
      clear x0 x1 x2 x3 y0 y1 y2
      refine wp_region_quiet_some mixed_T (by kernel_rfl) ?_
      repeat (go_big_quiet_step (first | (go_at_call 45; refine Calls.below_some (hcmp _))))
      refine wpQuiet_nil ?_
      intro w3 hw'
      obtain ⟨p_, hp_⟩ := hw'
      have HB3 : Aside0 (Below w.heap.size w w3) := by rw [hp_]; exact ⟨below_then HB2.out HB2.out.size p_.h⟩
      clear hp_ p_ HB2 hl L1 X0 X1 X2 Y0 Y1 Y2
      go_wp2
      go_ret
      exact ⟨by rw [HGV.out]; rfl, HB3.out⟩
end Go.Proofs.Ytnfliommpdjlkaa.Pr
