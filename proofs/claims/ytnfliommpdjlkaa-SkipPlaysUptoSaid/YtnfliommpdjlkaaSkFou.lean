/- SkU SkV SkP SkW SkX -/
import Derived.Test.YtnfliommpdjlkaaSkThr
import Derived.Test.YtnfliommpdjlkaaPrf27
import Derived.Test.YtnfliommpdjlkaaPrf36
import Derived.Test.YtnfliommpdjlkaaPrf37
section
namespace Go.Proofs.Ytnfliommpdjlkaa.Pr
open Go.RowKit Go.Proofs.Ytnfliommpdjlkaa.Brid Go.Proofs.YtnfliommpdjlkaaW.PrintWords Go.Proofs.YtnfliommpdjlkaaW.PrintLast Go.Proofs.YtnfliommpdjlkaaW.PrintMore
set_option linter.unusedVariables false
set_option linter.unusedSimpArgs false
set_option maxHeartbeats 4000000
set_option maxRecDepth 100000
attribute [local go_sem] Oper.semAt_some
theorem All_T (p : Nat) (w : World) : Calls Try.prog 33 #[.pointer (some ⟨p, 0, none⟩)] w fun e w' => e = .returned (.func (.func 56) #[] #[.pointer (some ⟨w.heap.size, 0, none⟩)]) ∧ w' = w.alloc (.cells #[.pointer (some ⟨p, 0, none⟩)] 66) := by
  go_enter Try.func33, Try.ntmps33
  go_wp2_with (go_at_call 51; refine (given_T _ _).mono ?_; rintro e w' ⟨rfl, rfl⟩)
  go_ret
  exact ⟨rfl, rfl⟩
abbrev zero69 : Array Value := #[.bool false, .slice none 0 0, .pointer none, .pointer none, .pointer none, .pointer none, .pointer none, .pointer none, .pointer none, .pointer none]
theorem All_nil_T (w : World) : Calls Try.prog 33 #[.pointer none] w fun e w' => e = .returned (.func (.func 56) #[] #[.pointer (some ⟨w.heap.size + 1, 0, none⟩)]) ∧ w' = (w.alloc (.cells zero69 69)).alloc (.cells #[.pointer (some ⟨w.heap.size, 0, none⟩)] 66) := by
  go_enter Try.func33, Try.ntmps33
  go_wp2_with (go_at_call 51; refine (given_T _ _).mono ?_; rintro e w' ⟨rfl, rfl⟩)
  go_ret
  exact ⟨rfl, rfl⟩
theorem From_T (p : Nat) (k : S27) (pre post : List (Sk.Nd S25)) (w : World) (H : Sk.Chain (·.f0) 69 71 w p (pre ++ post)) (HR : RowsOk w (pre ++ post))
    (hpre : ∀ n ∈ pre, lessT (keyT n.d) k = true) (hpost : ∀ n ∈ post, lessT (keyT n.d) k = false) :
    Calls Try.prog 35 #[.pointer (some ⟨p, 0, none⟩), .agg (cellsT k)] w fun e w' => ∃ gb, e = .returned (.func (.func 56) #[] #[.pointer (some ⟨gb, 0, none⟩)]) ∧ Below w.heap.size w w' ∧ w.heap.size ≤ gb ∧ w'.heap[gb]? = some (.cells #[.pointer (some ⟨Sk.lst p 0 pre, 0, none⟩)] 66 (0, 0)) := by
  have b1 : Below w.heap.size w (w.alloc (.cells (cellsT k) 27)) := below_alloc (Below.refl _ _) _
  have hpa := path_T p k pre post (w.alloc (.cells (cellsT k) 27)) (H.keep (b1.block p H.head.lt) (fun n hn => by
      obtain ⟨a, c, hs⟩ := List.append_of_mem hn
      exact b1.block n.b (H.node a n c hs).lt)) (fun n hn => by
      obtain ⟨A, c, h1, h2, h3, h4⟩ := HR n hn
      exact ⟨A, c, h1, h2, Kd.C_below h3 b1, h4⟩) hpre hpost
  have HB := Aside0.mk b1
  have hix : ∀ w : World, (Instr.index 67 (.agg #[pathV p pre 0, pathV p pre 1, pathV p pre 2, pathV p pre 3, pathV p pre 4, pathV p pre 5, pathV p pre 6, pathV p pre 7]) (.int .i64 0)).run Try.prog w = .ok (.pointer (some ⟨Sk.lst p 0 pre, 0, none⟩)) w := fun w => idx8_T _ _ _ _ _ _ _ _ w 0 (by omega) _ rfl
  clear b1 H HR hpre hpost
  go_enter Try.func35, Try.ntmps35
  go_wp2_with (first | (go_at_call 41; refine hpa.mono ?_; rintro e w2 ⟨rfl, hb2⟩; have HB2 := Aside0.mk (below_then HB.out HB.out.size hb2); clear hb2) | (go_at_call 51; refine (given_T _ _).mono ?_; rintro e w' ⟨rfl, rfl⟩))
  go_ret
  exact ⟨w2.heap.size, rfl, below_alloc HB2.out _, HB2.out.size, heap_alloc_new _ _⟩
theorem behind_G0 (at_ bb : Nat) (X : Nat → Prop) (w : World) (h2 : w.cell? ⟨at_, 2, none⟩ = some (.pointer none)) (hb : w.heap[bb]? = some (.cells #[.pointer (some ⟨at_, 0, none⟩)] 66 (0, 0))) :
    SeqG Try.prog 60 #[.pointer (some ⟨bb, 0, none⟩)] (fun n : Nat => #[.pointer (some ⟨n, 0, none⟩)]) (fun _ _ _ => False) X (fun xs => xs = []) (fun _ => False) w := by
  intro l J Jx W hBW hZ hJ hJx hY hJ0
  clear hZ
  refine (callsIn_wide (n := 1)).1 (callsIn_of_wp Try.func60 rfl trivial ?_ rfl)
  simp only [Try.ntmps60, List.size_toArray, List.length_cons, List.length_nil, Nat.reduceAdd, Nat.reduceSub, Array.replicate_succ, Array.replicate_zero, List.push_toArray, List.append_toArray, List.nil_append, List.cons_append]
  have hc0 := (blk_cell (blk_below hb hBW) 0).trans rfl
  have hlk := (Below.cell hBW (World.block_lt_of_cell? _ _ h2)).trans h2
  have HJ0 := Aside0.mk hJ0
  clear hJ0 hY hJ hJx hBW hb h2
  gi_wp2
  gi_loopg [3] 0 (fun kx a wr => a = .pointer none ∧ Aside0 (J [] wr))
  case atStart => exact ⟨rfl, HJ0⟩
  case round =>
    obtain ⟨rfl, HJ⟩ := hrel
    clear HJ0 hlk hc0
    gi_wp2
    refine ⟨fun _ h => (by cases h), ?_⟩
    gi_wp2
    go_end0
    exact ⟨⟨_, rfl⟩, .inl ⟨[], rfl, HJ.out⟩⟩
theorem given_G0 (at_ gb : Nat) (X : Nat → Prop) (w : World) (h2 : w.cell? ⟨at_, 2, none⟩ = some (.pointer none)) (hb : w.heap[gb]? = some (.cells #[.pointer (some ⟨at_, 0, none⟩)] 66 (0, 0))) :
    SeqG Try.prog 56 #[.pointer (some ⟨gb, 0, none⟩)] (fun x : S25 × Value => #[.agg #[.bool x.1.f0, x.2]]) (fun _ _ _ => False) X (fun xs => xs = []) (fun _ => False) w := by
  intro l J Jx W hBW hZ hJ hJx hY hJ0
  clear hZ
  refine (callsIn_wide (n := 1)).1 (callsIn_of_wp_marks Try.func56 rfl trivial ?_ rfl)
  simp only [Try.ntmps56, List.size_toArray, List.length_cons, List.length_nil, Nat.reduceAdd, Nat.reduceSub, Array.replicate_succ, Array.replicate_zero, List.push_toArray, List.append_toArray, List.nil_append, List.cons_append]
  refine wpIn_wide.2 ?_
  have hc0 := (blk_cell (blk_alloc (blk_below hb hBW) (.cells #[.func (.yield l) #[] #[]] 32)) 0).trans rfl
  have b2 := below_then hBW hBW.size (below_alloc (below_alloc (Below.refl W.heap.size W) (.cells #[.func (.yield l) #[] #[]] 32)) (.cells #[.pointer (some ⟨at_, 0, none⟩)] 66))
  have hlk := (Below.cell b2 (World.block_lt_of_cell? _ _ h2)).trans h2
  have kb : ((W.alloc (.cells #[.func (.yield l) #[] #[]] 32)).alloc (.cells #[.pointer (some ⟨at_, 0, none⟩)] 66)).heap[W.heap.size + 1]? = some (.cells #[.pointer (some ⟨at_, 0, none⟩)] 66 (0, 0)) := by
    have := heap_alloc_new (W.alloc (.cells #[.func (.yield l) #[] #[]] 32)) (.cells #[.pointer (some ⟨at_, 0, none⟩)] 66)
    rwa [show (W.alloc (.cells #[.func (.yield l) #[] #[]] 32)).heap.size = W.heap.size + 1 by simp] at this
  have z2 : ((W.alloc (.cells #[.func (.yield l) #[] #[]] 32)).alloc (.cells #[.pointer (some ⟨at_, 0, none⟩)] 66)).heap.size = W.heap.size + 2 := by simp
  have HJ := Aside0.mk hJ
  have HJ1 := Aside0.mk (hJ [] _ _ none hJ0 (World.grownBy_alloc W (.cells #[.func (.yield l) #[] #[]] 32) none) (fun r e => by cases e))
  have HJ2 := Aside0.mk (hJ [] _ _ none HJ1.out (World.grownBy_alloc _ (.cells #[.pointer (some ⟨at_, 0, none⟩)] 66) none) (fun r e => by cases e))
  have HLK := Aside0.mk hlk
  have HKB := Aside0.mk kb
  clear hJ hJx hY hJ0 hb h2 b2 hlk kb hBW
  go_wp2_with (go_at_call 57; refine (behind_T _ _).mono ?_; rintro e w' ⟨rfl, rfl⟩)
  generalize (W.alloc (.cells #[.func (.yield l) #[] #[]] 32)).alloc (.cells #[.pointer (some ⟨at_, 0, none⟩)] 66) = w2 at *
  refine wp_rangeG (gf := 60) (lb := #[.pointer (some ⟨W.heap.size + 1, 0, none⟩)]) rfl (enters_of Try.func60 (by kernel_rfl) rfl)
    (X := fun _ => True) (behind_G0 at_ (W.heap.size + 1) (fun _ => True) w2 HLK.out HKB.out) trivial trivial (fun _ => rfl)
    (fun pre2 V => J [] V) (fun cd pre2 V => False) ?hI (fun cd s A B row h _ _ => h) HJ2.out (fun pre n a' V => False) (fun pre x a' s A B row h _ _ => h) ?assign (fun l2 pre n a' V _ h _ => h.elim) ?done (fun cd pre2 V h _ _ => h.elim)
  case hI =>
    intro s A B row h hg hr
    exact HJ.out [] A B row h hg (fun r e => ⟨by have := (hr r e).1; omega, (hr r e).2⟩)
  case assign =>
    intro l2 pre n V K hi hgood hV hK
    exact hgood.elim
  case done =>
    rintro pre2 V rfl hj hD
    have HJ3 := Aside0.mk (HJ.out [] V _ (some w2.heap.size) hj (grownBy_putObj' V w2.heap.size (.deferred none)) (fun r e => by cases e; exact ⟨by omega, _, hD, rfl⟩))
    clear hj
    go_wp2
    refine ⟨by simp, .inl ⟨_, _, rfl, run_takeDeferred hD, ?_⟩⟩
    exact ⟨_, results_none rfl _ _ _, ⟨_, rfl⟩, .inl ⟨[], rfl, HJ3.out⟩⟩
end Go.Proofs.Ytnfliommpdjlkaa.Pr
end
section
namespace Go.Proofs.Ytnfliommpdjlkaa.Pr
open Go.RowKit Go.Proofs.Ytnfliommpdjlkaa.Brid Go.Proofs.YtnfliommpdjlkaaW.PrintWords Go.Proofs.YtnfliommpdjlkaaW.PrintLast Go.Proofs.YtnfliommpdjlkaaW.PrintMore
set_option linter.unusedVariables false
set_option linter.unusedSimpArgs false
set_option maxHeartbeats 4000000
set_option maxRecDepth 100000
attribute [local go_sem] Oper.semAt_some
theorem ownFrom_blk {β : Type} {B k : Nat} {cs : Array Value} {t : Nat} : OwnFrom B (fun (_ : β) V => V.heap[k]? = some (.cells cs t (0, 0))) := by
  intro s A A' row h hg hr
  refine (hg.block k (Array.getElem?_eq_some_iff.1 h).1 (fun e => ?_)).trans h
  obtain ⟨_, o, ho, hc⟩ := hr k e.symm
  rw [h] at ho
  cases ho
  cases hc
theorem below_put {W A : World} (h : Below W.heap.size W A) {l : Nat} (hl : W.heap.size ≤ l) (o : Obj) : Below W.heap.size W (A.putObj l o) :=
  ⟨h.os, h.tape, h.output, by simpa using h.size, fun k hk => (World.putObj_heap_other (fun e => by omega)).trans (h.block k hk)⟩
end Go.Proofs.Ytnfliommpdjlkaa.Pr
end
section
namespace Go.Proofs.Ytnfliommpdjlkaa.Pr
open Go.RowKit Go.Proofs.Ytnfliommpdjlkaa.Brid Go.Proofs.YtnfliommpdjlkaaW.PrintWords Go.Proofs.YtnfliommpdjlkaaW.PrintLast Go.Proofs.YtnfliommpdjlkaaW.PrintMore
set_option linter.unusedVariables false
set_option linter.unusedSimpArgs false
set_option maxHeartbeats 4000000
set_option maxRecDepth 100000
attribute [local go_sem] Oper.semAt_some
/-! what is there after many puts -/
def eqK (a b : S27) : Bool := !lessT a b && !lessT b a
theorem eqK_iff {a b : S27} : eqK a b = true ↔ lessT a b = false ∧ lessT b a = false := by simp [eqK]
theorem eqK_refl (a : S27) : eqK a a = true := eqK_iff.2 ⟨lessT_irrefl a, lessT_irrefl a⟩
theorem eqK_symm {a b : S27} (h : eqK a b = true) : eqK b a = true := eqK_iff.2 ⟨(eqK_iff.1 h).2, (eqK_iff.1 h).1⟩
theorem eqK_trans {a b c : S27} (h : eqK a b = true) (k : eqK b c = true) : eqK a c = true :=
  eqK_iff.2 ⟨notlessT_trans (eqK_iff.1 h).1 (eqK_iff.1 k).1, notlessT_trans (eqK_iff.1 k).2 (eqK_iff.1 h).2⟩
theorem less_eqK {a b c : S27} (h : lessT a b = true) (k : eqK b c = true) : lessT a c = true := by
  cases hc : lessT a c with
  | true => rfl
  | false => rw [notlessT_trans hc (eqK_iff.1 k).2] at h; cases h
def SortedD (ds : List S25) : Prop := ds.Pairwise (fun a b => lessT (keyT a) (keyT b) = true)
def findV (ds : List S25) (k : S27) : Option S25 := ds.find? (fun e => eqK (keyT e) k)
theorem getV_find (ds : List S25) (k : S27) (hs : SortedD ds) : getV ds k = findV ds k := by
  induction ds with
  | nil => rfl
  | cons a l ih =>
    obtain ⟨ha, hl⟩ := List.pairwise_cons.1 hs
    unfold getV postOf findV
    rw [List.dropWhile_cons, List.find?_cons]
    cases h1 : lessT (keyT a) k with
    | true =>
      have : eqK (keyT a) k = false := by simp [eqK, h1]
      rw [this]
      simp only [if_true]
      have := ih hl
      unfold getV postOf findV at this
      exact this
    | false =>
      cases h2 : lessT k (keyT a) with
      | false =>
        have : eqK (keyT a) k = true := eqK_iff.2 ⟨h1, h2⟩
        rw [this]
        simp [h2]
      | true =>
        have : eqK (keyT a) k = false := by simp [eqK, h2]
        rw [this]
        simp only [Bool.false_eq_true, if_false, h2, if_true]
        symm
        rw [List.find?_eq_none]
        intro b hb he
        have := lessT_trans h2 (ha b hb)
        rw [(eqK_iff.1 he).2] at this; cases this
theorem findV_putV (ds : List S25) (d : S25) (k : S27) (hs : SortedD ds) : findV (putV ds d) k = if eqK (keyT d) k = true then some d else findV ds k := by
  have h0 := pre_post keyT (keyT d) ds
  have h1 := preOf_less keyT (keyT d) ds
  have h2 := postOf_not keyT (keyT d) ds hs
  unfold putV
  generalize preOf keyT (keyT d) ds = u at *
  generalize postOf keyT (keyT d) ds = v at *
  subst h0
  unfold findV
  have hu : eqK (keyT d) k = true → u.find? (fun e => eqK (keyT e) k) = none := fun hd => by
    rw [List.find?_eq_none]
    intro e he hk
    have := less_eqK (h1 e he) hd
    rw [(eqK_iff.1 hk).1] at this; cases this
  rw [List.find?_append, List.find?_append, List.find?_cons]
  cases hd : eqK (keyT d) k with
  | true => rw [hu hd]; simp
  | false =>
    simp only [Bool.false_eq_true, if_false]
    congr 1
    cases v with
    | nil => rfl
    | cons e r =>
      by_cases hde : lessT (keyT d) (keyT e) = true
      · simp only [hde, if_true]
      · simp only [hde]
        rw [List.find?_cons]
        have hed : eqK (keyT e) (keyT d) = true := eqK_iff.2 ⟨h2 e (by simp), by simpa using hde⟩
        have : eqK (keyT e) k = false := by
          cases hk : eqK (keyT e) k with
          | false => rfl
          | true => rw [eqK_trans (eqK_symm hed) hk] at hd; cases hd
        rw [this]
        rfl
def putsV (l : List S25) : List S25 := l.foldl (fun ds d => if d.f1.length = 0 then ds else putV ds d) []
theorem putsV_snoc (l : List S25) (d : S25) : putsV (l ++ [d]) = if d.f1.length = 0 then putsV l else putV (putsV l) d := by simp [putsV, List.foldl_append]
theorem putsV_sorted_aux (l : List S25) (ds : List S25) (hs : SortedD ds) : SortedD (l.foldl (fun ds d => if d.f1.length = 0 then ds else putV ds d) ds) := by
  induction l generalizing ds with
  | nil => exact hs
  | cons a l ih =>
    rw [List.foldl_cons]
    by_cases h : a.f1.length = 0
    · rw [if_pos h]; exact ih ds hs
    · rw [if_neg h]; exact ih _ (putV_sorted ds a hs)
theorem putsV_sorted (l : List S25) : SortedD (putsV l) := putsV_sorted_aux l [] List.Pairwise.nil
/-- the newest of a key -/
def newV (k : S27) (acc : Option S25) (l : List S25) : Option S25 := l.foldl (fun acc d => if d.f1.length = 0 then acc else if eqK (keyT d) k = true then some d else acc) acc
theorem findV_puts_aux (k : S27) (l : List S25) (ds : List S25) (hs : SortedD ds) : findV (l.foldl (fun ds d => if d.f1.length = 0 then ds else putV ds d) ds) k = newV k (findV ds k) l := by
  induction l generalizing ds with
  | nil => rfl
  | cons a l ih =>
    rw [List.foldl_cons, newV, List.foldl_cons]
    by_cases h : a.f1.length = 0
    · rw [if_pos h, if_pos h]; exact ih ds hs
    · rw [if_neg h, if_neg h, ih _ (putV_sorted ds a hs), findV_putV ds a k hs]; rfl
theorem getV_puts (k : S27) (l : List S25) : getV (putsV l) k = newV k none l := by
  rw [getV_find _ _ (putsV_sorted l)]
  exact findV_puts_aux k l [] List.Pairwise.nil
/-- .. from the i-th on -/
def newestV (l : List S25) (i : Nat) (j : Nat) : S25 := (newV (keyT (rd_T25 l i)) (some (rd_T25 l i)) ((l.take j).drop i)).getD z25
theorem newV_some (k : S27) (d : S25) (l : List S25) : ∃ e, newV k (some d) l = some e := by
  induction l generalizing d with
  | nil => exact ⟨d, rfl⟩
  | cons a l ih =>
    rw [newV, List.foldl_cons]
    by_cases h : a.f1.length = 0
    · rw [if_pos h]; exact ih d
    · rw [if_neg h]
      by_cases h2 : eqK (keyT a) k = true
      · rw [if_pos h2]; exact ih a
      · rw [if_neg h2]; exact ih d
theorem rdD_at (l : List S25) (n : Nat) (h : n < l.length) : rd_T25 l (n : Int) = l[n] := by
  simp [rd_T25, List.getD_eq_getElem?_getD, List.getElem?_eq_getElem h]
theorem newV_app (k : S27) (acc : Option S25) (a b : List S25) : newV k acc (a ++ b) = newV k (newV k acc a) b := by simp [newV, List.foldl_append]
theorem get_newest (l : List S25) (i : Nat) (hi : i < l.length) (hl : l[i].f1.length ≠ 0) : getV (putsV l) (keyT l[i]) = some (newestV l i l.length) := by
  rw [getV_puts]
  have e1 : l = l.take i ++ l.drop i := (List.take_append_drop i l).symm
  have e2 : l.drop i = l[i] :: l.drop (i + 1) := List.drop_eq_getElem_cons hi
  unfold newestV
  rw [rdD_at l i hi, List.take_length]
  have hg : ∀ acc, newV (keyT l[i]) acc (l.drop i) = newV (keyT l[i]) (some l[i]) (l.drop (i + 1)) := fun acc => by
    rw [e2, newV, List.foldl_cons, if_neg hl, if_pos (eqK_refl _)]; rfl
  have : newV (keyT l[i]) none l = newV (keyT l[i]) (some l[i]) (l.drop (i + 1)) := by
    have : newV (keyT l[i]) none l = newV (keyT l[i]) none (l.take i ++ l.drop i) := by rw [List.take_append_drop]
    rw [this, newV_app, hg]
  rw [this, hg]
  obtain ⟨e, he⟩ := newV_some (keyT l[i]) l[i] (l.drop (i + 1))
  rw [he]; rfl
theorem newest_start (l : List S25) (i : Nat) : newestV l i i = rd_T25 l i := by simp [newestV, newV, List.drop_take]
theorem newest_step (l : List S25) (i j : Nat) (hij : i ≤ j) (hj : j < l.length) : newestV l i (j + 1) = if l[j].f1.length = 0 then newestV l i j else if eqK (keyT l[j]) (keyT (rd_T25 l i)) = true then l[j] else newestV l i j := by
  unfold newestV
  have : (l.take (j + 1)).drop i = (l.take j).drop i ++ [l[j]] := by
    rw [List.take_succ_eq_append_getElem hj, List.drop_append_of_le_length (by rw [List.length_take]; omega)]
  rw [this, newV_app]
  obtain ⟨e, he⟩ := newV_some (keyT (rd_T25 l i)) (rd_T25 l i) ((l.take j).drop i)
  rw [he]
  have e0 : ∀ d : S25, newV (keyT (rd_T25 l i)) (some e) [d] = if d.f1.length = 0 then some e else if eqK (keyT d) (keyT (rd_T25 l i)) = true then some d else some e := fun d => rfl
  rw [e0]
  by_cases h : l[j].f1.length = 0
  · rw [if_pos h, if_pos h]
  · rw [if_neg h, if_neg h]
    by_cases h2 : eqK (keyT l[j]) (keyT (rd_T25 l i)) = true
    · rw [if_pos h2, if_pos h2]; rfl
    · rw [if_neg h2, if_neg h2]
theorem heap27 : Kd.Heap k27 := Kd.heap_iso _ (Kd.heap_pair Kd.heap_scalar (Kd.heap_pair (Kd.heap_int _) Kd.heap_scalar))
theorem heap25 : Kd.Heap k25 := Kd.heap_iso _ (Kd.heap_pair Kd.heap_scalar (Kd.heap_slice _ heap27))
theorem early_T (A0 : Option Addr) (c0 : Nat) (l : List S25) (w : World) (hr : Kd.C k25 w A0 l.length l) (hc : l.length ≤ c0) :
    Calls Try.prog 27 #[.slice A0 l.length c0] w fun e w' => ∃ A c, e = .returned (.slice A (l.take 400).length c) ∧ (l.take 400).length ≤ c ∧ Kd.C k25 w' A (l.take 400).length (l.take 400) ∧ Below w.heap.size w w' := by
  refine (tithebarnlaw10_early.calls (fun k => k < w.heap.size) A0 c0 l (l.take 400) w (Kd.V_mk hc (Kd.C_F heap25 hr)) ?_).mono ?_
  · have hm : mn (l.length : Int) 400 = if (l.length : Int) ≤ 400 then (l.length : Int) else 400 := by unfold mn; split <;> (try split) <;> omega
    unfold tithebarnlaw10_early.f
    rw [hm]
    by_cases h : (l.length : Int) ≤ 400
    · rw [if_pos h, if_pos (by omega), if_pos (by omega)]
      congr 1
      rw [List.take_of_length_le (by omega), List.take_of_length_le (by omega)]
    · rw [if_neg h, if_pos (by omega), if_pos (by omega)]; rfl
  · rintro e w' ⟨v, rfl, hV, hb⟩
    obtain ⟨A, c, rfl⟩ := Kd.V_slice hV
    obtain ⟨_, h2, h3⟩ := Kd.V_reads' hV
    exact ⟨A, c, rfl, h2, h3, hb⟩
/-- a put, whatever the deed -/
theorem PutAny_T (p : Nat) (d : S25) (A0 : Option Addr) (c0 : Nat) (ns : List (Sk.Nd S25)) (l : List S25) (O : Nat → Prop) (w : World) (H : SkL w O p ns) (hC : Kd.C k27 w A0 d.f1.length d.f1) (hc : d.f1.length ≤ c0) (hm : d.f1.length ≤ 4398046511103) (hn : ns.length < 4611686018427387904) (hd : ns.map (·.d) = putsV l) :
    Calls Try.prog 16 #[.pointer (some ⟨p, 0, none⟩), .agg #[.bool d.f0, .slice A0 d.f1.length c0]] w fun e w' => e = .returned (.bool (decide (d.f1.length ≠ 0))) ∧ Fr O w w' ∧ ∃ ns', SkL w' (fun k => O k ∨ w.heap.size ≤ k) p ns' ∧ ns'.map (·.d) = putsV (l ++ [d]) := by
  by_cases h : d.f1.length = 0
  · have e1 : Value.slice A0 d.f1.length c0 = .slice A0 0 c0 := by rw [h]
    rw [e1]
    refine (Put_empty_T (some ⟨p, 0, none⟩) d.f0 A0 c0 w).mono ?_
    rintro e w' ⟨rfl, hb⟩
    exact ⟨by rw [decide_eq_false (fun k => k h)], Fr.of_below hb, ns, (H.below hb).mono (fun k hk => .inl hk), by rw [putsV_snoc, if_pos h]; exact hd⟩
  · refine (Put_T p d A0 c0 ns O w H hC hc (by omega) hm hn).mono ?_
    rintro e w' ⟨rfl, hF, ns', H', hd'⟩
    exact ⟨by rw [decide_eq_true h], hF, ns', H', by rw [putsV_snoc, if_neg h, hd', hd]⟩
theorem putV_len (ds : List S25) (d : S25) : (putV ds d).length ≤ ds.length + 1 := by
  have h0 := congrArg List.length (pre_post keyT (keyT d) ds)
  unfold putV
  rw [List.length_append] at h0
  rw [List.length_append, List.length_cons]
  cases hp : postOf keyT (keyT d) ds with
  | nil => rw [hp] at h0; simp at h0 ⊢; omega
  | cons e r =>
    rw [hp] at h0
    simp only [List.length_cons] at h0
    simp only
    split
    · simp only [List.length_cons]; omega
    · omega
theorem putsV_len_aux (l ds : List S25) : (l.foldl (fun ds d => if d.f1.length = 0 then ds else putV ds d) ds).length ≤ ds.length + l.length := by
  induction l generalizing ds with
  | nil => simp
  | cons a l ih =>
    rw [List.foldl_cons, List.length_cons]
    by_cases h : a.f1.length = 0
    · rw [if_pos h]; have := ih ds; omega
    · rw [if_neg h]; have := ih (putV ds a); have := putV_len ds a; omega
theorem putsV_len (l : List S25) : (putsV l).length ≤ l.length := by
  have := putsV_len_aux l []
  unfold putsV
  simpa using this
theorem putV_mem {ds : List S25} {d e : S25} (h : e ∈ putV ds d) : e = d ∨ e ∈ ds := by
  have h0 := pre_post keyT (keyT d) ds
  rw [← h0]
  unfold putV at h
  generalize preOf keyT (keyT d) ds = u at *
  generalize postOf keyT (keyT d) ds = v at *
  rcases List.mem_append.1 h with k | k
  · exact .inr (List.mem_append_left _ k)
  · rcases List.mem_cons.1 k with k | k
    · exact .inl k
    · cases v with
      | nil => cases k
      | cons x r =>
        simp only at k
        split at k
        · exact .inr (List.mem_append_right _ k)
        · exact .inr (List.mem_append_right _ (List.mem_cons_of_mem _ k))
theorem putsV_mem {l : List S25} {e : S25} (h : e ∈ putsV l) : e ∈ l ∧ e.f1.length ≠ 0 := by
  have : ∀ (l ds : List S25), e ∈ l.foldl (fun ds d => if d.f1.length = 0 then ds else putV ds d) ds → (e ∈ l ∧ e.f1.length ≠ 0) ∨ e ∈ ds := by
    intro l
    induction l with
    | nil => intro ds h; exact .inr h
    | cons a l ih =>
      intro ds h
      rw [List.foldl_cons] at h
      by_cases ha : a.f1.length = 0
      · rw [if_pos ha] at h
        rcases ih ds h with k | k
        · exact .inl ⟨List.mem_cons_of_mem _ k.1, k.2⟩
        · exact .inr k
      · rw [if_neg ha] at h
        rcases ih _ h with k | k
        · exact .inl ⟨List.mem_cons_of_mem _ k.1, k.2⟩
        · rcases putV_mem k with rfl | k
          · exact .inl ⟨List.mem_cons_self, ha⟩
          · exact .inr k
  rcases this l [] h with k | k
  · exact k
  · cases k
/-- a row in new memory abides the loop's own book-keeping -/
theorem ownFrom_R {β : Type} {B n0 : Nat} {v : Value} {l : List S27} : OwnFrom B (fun (_ : β) V => Kd.R k27 27 V n0 (fun _ => True) v l) := by
  intro s A A' row h hg hr
  refine Kd.R_mono (Kd.R_move (Kd.R_bound h) (fun k hk => hg.block k hk.2.2.1 (fun e => ?_))) (fun _ _ => trivial)
  obtain ⟨_, o, ho, hc⟩ := hr k e.symm
  obtain ⟨_, _, _, q, _, cells, hcell⟩ := hk
  rw [hcell] at ho
  cases ho
  cases hc
theorem ownFrom_SkL {β : Type} {B p : Nat} {O : Nat → Prop} {ns : List (Sk.Nd S25)} (hO : ∀ k, O k → k < B) : OwnFrom B (fun (_ : β) V => SkL V O p ns) := by
  intro s A A' row h hg hr
  exact h.keep (fun k hk hkl => hg.block k hkl (fun e => by have := (hr k e.symm).1; have := hO k hk; omega))
end Go.Proofs.Ytnfliommpdjlkaa.Pr
end
section
namespace Go.Proofs.Ytnfliommpdjlkaa.Pr
open Go.RowKit Go.Proofs.Ytnfliommpdjlkaa.Brid Go.Proofs.YtnfliommpdjlkaaW.PrintWords Go.Proofs.YtnfliommpdjlkaaW.PrintLast Go.Proofs.YtnfliommpdjlkaaW.PrintMore
set_option linter.unusedVariables false
set_option linter.unusedSimpArgs false
set_option maxHeartbeats 4000000
set_option maxRecDepth 100000
attribute [local go_sem] Oper.semAt_some
theorem wp_rangeH {α : Type} {P : Program} {g : Operand} {ps : Array Tmp} {assign body : Code} {Q : Exit → Act → World → Prop} {a : Act} {w : World} {gf : Nat} {lb : Array Value}
    (hg : a.eval g = .func (.func gf) #[] lb) (eg : ∀ args w, (callFunc gf args).run P w = .ok (.enter gf args) w)
    {encs : α → Array Value} {Good : List α → α → World → Prop} {X : Nat → Prop} {S Sp : List α → Prop} (hseq : SeqG P gf lb encs Good X S Sp w) (hX0 : X w.heap.size) (hX1 : X (w.heap.size + 1)) (hps : ∀ x, (encs x).size = ps.size)
    (I : List α → World → Prop) (Ix : Code → List α → World → Prop) (hI : OwnFrom w.heap.size I) (hIx : ∀ c, OwnFrom w.heap.size (Ix c)) (h0 : I [] w)
    (hround : ∀ (l : Nat) (pre : List α) (x : α) (W : World) (K : Act → World → Prop), I pre W → Good pre x W → w.heap.size + 2 ≤ W.heap.size →
      (∀ (a' : Act) (V : World) (Z : World → Prop), OwnFrom w.heap.size (fun (_ : Unit) U => Z U) → Z V → KeepsFrom w.heap.size W V → Fr X W V →
        (∀ U, Z U → w.heap.size + 2 ≤ U.heap.size → body.wpIn (Fence.wide.inRound l) 0 P (postG w.heap.size X I Ix (pre ++ [x]) U) a' U) → K a' V) →
      assign.wpIn (Fence.wide.inRound l) 0 P (Exit.then K (fun _ _ _ => False)) { tmps := (ps.zip (encs x)).foldl (fun t (p, v) => t.setIfInBounds p v) a.tmps, defers := [] } W)
    (hdone : ∀ (xs : List α) (W : World), S xs → I xs W → W.heap[w.heap.size]? = some (.deferred (some [])) → Q .normal { a with defers := { target := .collected w.heap.size, args := #[] } :: a.defers } W)
    (hstop : ∀ (c : Code) (pre : List α) (W : World), Sp pre → Ix c pre W → W.heap[w.heap.size]? = some (.deferred (some [])) → c.wp P Q { a with defers := { target := .collected w.heap.size, args := #[] } :: a.defers } W) :
    (Code.rangeFunc g ps assign body).wp P Q a w := by
  refine (wpIn_wide (n := 1)).1 (wpIn_rangeFunc fun fn _ => ?_)
  obtain ⟨R, hR⟩ : ∃ R : LoopState → Option Code → Loop, R = fun st pe => { state := st, pending := pe, fn, tmps := a.tmps, params := ps, assign, body, defers := w.heap.size } := ⟨_, rfl⟩
  have eD : (w.alloc (.deferred (some []))).heap.size = w.heap.size + 1 := by simp
  have hL0 : ((w.alloc (.deferred (some []))).alloc (.loop (R .ready none))).heap[w.heap.size + 1]? = some (.loop (R .ready none)) := by
    have := World.alloc_heap_new (w.alloc (.deferred (some []))) (.loop (R .ready none))
    rw [eD] at this; exact this
  have hD0 : ((w.alloc (.deferred (some []))).alloc (.loop (R .ready none))).heap[w.heap.size]? = some (.deferred (some [])) :=
    (Below.heap_alloc _ _ _ (by simp)).trans (World.alloc_heap_new w _)
  have hB0 : Below w.heap.size w ((w.alloc (.deferred (some []))).alloc (.loop (R .ready none))) := below_alloc (below_alloc (Below.refl _ _) _) _
  have hI0 : I [] ((w.alloc (.deferred (some []))).alloc (.loop (R .ready none))) := hI.alloc _ (hI.alloc _ h0)
  have hZ0 : ((w.alloc (.deferred (some []))).alloc (.loop (R .ready none))).heap.size = w.heap.size + 2 := by simp
  refine ⟨w.heap.size + 1, [{ target := .collected w.heap.size, args := #[] }], ((w.alloc (.deferred (some []))).alloc (.loop (R .ready none))), { target := .fn (.func gf) lb, args := #[.func (.yield (w.heap.size + 1)) #[] #[]] }, ((w.alloc (.deferred (some []))).alloc (.loop (R .ready none))), gf, #[.func (.yield (w.heap.size + 1)) #[] #[]] ++ lb, ((w.alloc (.deferred (some []))).alloc (.loop (R .ready none))), ?_, ?_, fun _ _ => trivial, ?_, fun h => absurd h (by simp [Fence.wide]), ?_⟩
  · rw [hR]; exact run_enterLoop_outer _ _ _ _ _
  · simp only [resolve, hg]
    simp [go_sem]
  · simp [invoke, go_sem, eg]
  refine callsIn_wide.2 ?_
  generalize (w.alloc (.deferred (some []))).alloc (.loop (R .ready none)) = W0 at *
  have hfar : ∀ {A B : World} {row : Option Nat} {k : Nat} {o : Obj}, A.grownBy B row → (∀ r, row = some r → W0.heap.size ≤ r ∧ ∃ o : Obj, A.heap[r]? = some o ∧ o.isCells = false) → k < W0.heap.size → A.heap[k]? = some o → B.heap[k]? = some o :=
    fun hgr hr hk ho => (hgr.block _ (Array.getElem?_eq_some_iff.1 ho).1 (fun e => by have := (hr _ e.symm).1; omega)).trans ho
  have hlow : ∀ {row : Option Nat} {A : World}, (∀ r, row = some r → W0.heap.size ≤ r ∧ ∃ o : Obj, A.heap[r]? = some o ∧ o.isCells = false) → (∀ r, row = some r → w.heap.size ≤ r ∧ ∃ o : Obj, A.heap[r]? = some o ∧ o.isCells = false) :=
    fun hr r e => ⟨by have := (hr r e).1; omega, (hr r e).2⟩
  refine (hseq (w.heap.size + 1)
    (fun pre W => I pre W ∧ W.heap[w.heap.size + 1]? = some (.loop (R .ready none)) ∧ W.heap[w.heap.size]? = some (.deferred (some [])))
    (fun pre W => ∃ c, Ix c pre W ∧ W.heap[w.heap.size + 1]? = some (.loop (R .done (some c))) ∧ W.heap[w.heap.size]? = some (.deferred (some [])))
    W0 hB0 hZ0
    (fun s A B row hs hgr hr => ⟨hI s A B row hs.1 hgr (hlow hr), hfar hgr hr (by omega) hs.2.1, hfar hgr hr (by omega) hs.2.2⟩)
    (fun s A B row hs hgr hr => by
      obtain ⟨c, h1, h2, h3⟩ := hs
      exact ⟨c, hIx c s A B row h1 hgr (hlow hr), hfar hgr hr (by omega) h2, hfar hgr hr (by omega) h3⟩)
    ?_ ⟨hI0, hL0, hD0⟩).mono ?_
  · -- a round
    rintro pre x V ⟨hi, hl, hd⟩ hgood hVs
    have hlt : w.heap.size + 1 < V.heap.size := (Array.getElem?_eq_some_iff.1 hl).1
    have hy := run_yield (P := P) (args := encs x) hl (by rw [hR]; exact hps x)
    rw [hR] at hy
    refine ⟨fn, _, assign, body, hy, roundIn_of_wpIn (n := 0) trivial (hround _ pre x V _ hi hgood (by omega) fun a' V1 Z hZo hZ1 hk1 hf1 hbody => ?_)⟩
    have hl1 := hk1.same _ _ (Nat.le_succ _) hl rfl
    have hd1 := hk1.same _ _ (Nat.le_refl _) hd rfl
    have hlt1 : w.heap.size + 1 < V1.heap.size := (Array.getElem?_eq_some_iff.1 hl1).1
    refine ⟨_, run_beginRound hl1 (by rw [hR]), ?_⟩
    have hl2 : (V1.putObj (w.heap.size + 1) (.loop { R .ready none with state := .busy })).heap[w.heap.size + 1]? = some (.loop { R .ready none with state := .busy }) := World.putObj_heap_same hlt1
    have hd2 : (V1.putObj (w.heap.size + 1) (.loop { R .ready none with state := .busy })).heap[w.heap.size]? = some (.deferred (some [])) := (World.putObj_heap_other (by omega)).trans hd1
    have hf2 := hf1.putObj hX1 (.loop { R .ready none with state := .busy })
    have hA2 := hZo.putObj (s := ()) (.loop { R .ready none with state := .busy }) hZ1 (Nat.le_succ _) hl1 rfl
    refine wpIn_mono (hbody _ hA2 (by simp; omega)) ?_
    have fin : ∀ (jump : Option Code) (V3 : World), KeepsFrom w.heap.size (V1.putObj (w.heap.size + 1) (.loop { R .ready none with state := .busy })) V3 →
        (Instr.endRound (w.heap.size + 1) jump).run P V3 = .ok (.bool jump.isNone) (V3.putObj (w.heap.size + 1) (.loop (R (if jump.isNone then .ready else .done) jump))) ∧
        V3.heap[w.heap.size + 1]? = some (.loop { R .ready none with state := .busy }) ∧
        (V3.putObj (w.heap.size + 1) (.loop (R (if jump.isNone then .ready else .done) jump))).heap[w.heap.size + 1]? = some (.loop (R (if jump.isNone then .ready else .done) jump)) ∧
        (V3.putObj (w.heap.size + 1) (.loop (R (if jump.isNone then .ready else .done) jump))).heap[w.heap.size]? = some (.deferred (some [])) := fun jump V3 hk3 => by
      have hl3 := hk3.same _ _ (Nat.le_succ _) hl2 rfl
      have h := run_endRound (P := P) jump hl3
      rw [hR] at h ⊢
      exact ⟨h, by rw [hR] at hl3; exact hl3, World.putObj_heap_same (Array.getElem?_eq_some_iff.1 hl3).1, (World.putObj_heap_other (by omega)).trans (hk3.same _ _ (Nat.le_refl _) hd2 rfl)⟩
    have hkk : ∀ {V3 : World}, KeepsFrom w.heap.size (V1.putObj (w.heap.size + 1) (.loop { R .ready none with state := .busy })) V3 → ∀ o : Obj, KeepsFrom W0.heap.size V (V3.putObj (w.heap.size + 1) o) := fun {V3} hk3 o =>
      (keepsFrom_mono hk1 (by omega)).trans ((keepsFrom_putLow V1 (by omega) _).trans ((keepsFrom_mono hk3 (by omega)).trans (keepsFrom_putLow V3 (by omega) _)))
    rintro e a3 V3 hp
    cases e with
    | normal =>
      obtain ⟨hk3, hf3, hi3⟩ := hp
      obtain ⟨hr, hl3, hl4, hd4⟩ := fin none V3 hk3
      exact ⟨_, _, hr, .inl ⟨rfl, ⟨hI.putObj _ hi3 (Nat.le_succ _) hl3 rfl, hl4, hd4⟩, (hf2.trans hf3).putObj hX1 _, hkk hk3 _⟩⟩
    | ret =>
      obtain ⟨hk3, hf3, hi3⟩ := hp
      obtain ⟨hr, hl3, hl4, hd4⟩ := fin (some .ret) V3 hk3
      exact ⟨_, _, hr, .inr ⟨rfl, ⟨.ret, (hIx _).putObj _ hi3 (Nat.le_succ _) hl3 rfl, hl4, hd4⟩, (hf2.trans hf3).putObj hX1 _, hkk hk3 _⟩⟩
    | exit id =>
      obtain ⟨hk3, hf3, hi3⟩ := hp
      obtain ⟨hr, hl3, hl4, hd4⟩ := fin (some (.exit id)) V3 hk3
      exact ⟨_, _, hr, .inr ⟨rfl, ⟨.exit id, (hIx _).putObj _ hi3 (Nat.le_succ _) hl3 rfl, hl4, hd4⟩, (hf2.trans hf3).putObj hX1 _, hkk hk3 _⟩⟩
    | goto t => exact hp.elim
    | panic ch => exact hp.elim
    | outgrown => exact hp.elim
  · -- behind it
    rintro e V2 ⟨⟨v, rfl⟩, (⟨xs, hS, hi, hl, hd⟩ | ⟨pre, hSp, c, hi, hl, hd⟩)⟩
    · have h := run_endLoop (P := P) hl (by rw [hR]; simp)
      rw [hR] at h
      exact ⟨none, _, h, hdone xs _ hS (hI.putObj _ hi (Nat.le_succ _) hl rfl) ((World.putObj_heap_other (by omega)).trans hd)⟩
    · have h := run_endLoop (P := P) hl (by rw [hR]; simp)
      rw [hR] at h
      exact ⟨some c, _, h, wpIn_wide.2 (hstop c pre _ hSp ((hIx c).putObj _ hi (Nat.le_succ _) hl rfl) ((World.putObj_heap_other (by omega)).trans hd))⟩
end Go.Proofs.Ytnfliommpdjlkaa.Pr
end
section
namespace Go.Proofs.Ytnfliommpdjlkaa.Pr
open Go.RowKit Go.Proofs.Ytnfliommpdjlkaa.Brid Go.Proofs.YtnfliommpdjlkaaW.PrintWords Go.Proofs.YtnfliommpdjlkaaW.PrintLast Go.Proofs.YtnfliommpdjlkaaW.PrintMore
set_option linter.unusedVariables false
set_option linter.unusedSimpArgs false
set_option maxHeartbeats 4000000
set_option maxRecDepth 100000
attribute [local go_sem] Oper.semAt_some
/-! A region without 'defer', in a round of a loop over a function: as elsewhere. -/
section
variable {P : Program} {ops : Array Oper} {Q : Exit → Act → World → Prop} {l : Nat}
theorem wpOpIn_of {i : Nat} {K K' : Act → World → Prop} {a : Act} {w : World} (hnd : ∀ o ∈ ops.toList, ∀ c, o.op ≠ .defer c) (hlo : ¬ LetsOut Q) (hK : ∀ a w, K a w → K' a w) (h : wpOp P ops Q i K a w) : wpOpIn (Fence.wide.inRound l) 0 P ops Q i K' a w := by
  unfold wpOp at h
  unfold wpOpIn
  cases ho : ops[i]? with
  | none => rw [ho] at h; exact hK _ _ h
  | some o =>
    have hm : o ∈ ops.toList := by
      obtain ⟨hi, rfl⟩ := Array.getElem?_eq_some_iff.1 ho
      exact Array.getElem_mem_toList hi
    simp only [ho] at h ⊢
    by_cases hw : Region.wanted o (yielded ops a.tmps) = true
    · rw [if_pos hw] at h ⊢
      rcases h with h | ⟨_, h⟩
      · refine ⟨fun _ _ => trivial, ?_⟩
        rw [Oper.semAt_eq _ _ _ (hnd o hm)]
        unfold Oper.wp at h
        generalize (execOp a.eval o).run P w = r at h ⊢
        cases r with
        | ok nx w' =>
          cases nx with
          | value v => exact hK _ _ h
          | skip => exact hK _ _ h
          | defer d => exact hK _ _ h
          | enter f args =>
            refine ⟨fun hh => absurd hh (by simp [Fence.wide]), CallsIn.inRound l (callsIn_wide.2 (Calls.mono h ?_))⟩
            intro e w'' he
            cases e with
            | returned v => exact hK _ _ he
            | panicked c => exact he
            | outgrown => exact he
          | row row args =>
            exact ⟨fun hh => absurd hh (by simp [Fence.wide]), fun c cs _ => by
              obtain ⟨v, w'', hr, hs⟩ := h c cs
              exact ⟨v, w'', hK _ _ hr, stepsIn_wide.2 hs⟩⟩
          | _ => exact h.elim
        | halt hh w' =>
          cases hh with
          | panic v => exact h
          | _ => exact h.elim
      · exact absurd h hlo
    · rw [if_neg hw] at h ⊢
      exact ⟨fun _ _ => trivial, hK _ _ h⟩
theorem wpAnyIn_of {md : Region.Mode} (hnd : ∀ o ∈ ops.toList, ∀ c, o.op ≠ .defer c) (hlo : ¬ LetsOut Q) : ∀ (fuel : Nat) (listed : Array Bool) (a : Act) (w : World), wpAny P md ops Q fuel listed a w → wpAnyIn (Fence.wide.inRound l) 0 P md ops Q fuel listed a w
  | 0, _, _, _, h => h
  | fuel + 1, listed, a, w, h => ⟨h.1, fun i hi => wpOpIn_of hnd hlo (fun a w => wpAnyIn_of hnd hlo fuel _ a w) (h.2 i hi)⟩
end
def noDefer (o : Oper) : Bool := match o.op with | .defer _ => false | _ => true
theorem noDefer_spec {l : List Oper} (h : l.all noDefer = true) : ∀ o ∈ l.toArray.toList, ∀ c, o.op ≠ .defer c := by
  intro o ho c e
  have := List.all_eq_true.1 h o (by simpa using ho)
  unfold noDefer at this
  rw [e] at this
  cases this
theorem wpIn_region_quiet_some {P : Program} {id n : Nat} {Q : Exit → Act → World → Prop} {a : Act} {w : World} {l : List Oper} (hm : P.follows .mixedOrders = true) (hB : Region.lexB .any l.toArray = true) (hnd : l.all noDefer = true) (hlo : ¬ LetsOut Q)
    (h : wpQuiet P l.toArray (fun w' => ∃ p : SomeW w, w' = p.W) (fun a' => ∀ w', (∃ p : SomeW w, w' = p.W) → Q .normal a' w') l a) : (Code.region id l.toArray true).wpIn (Fence.wide.inRound n) 0 P Q a w := by
  simp only [Region.lexB, Bool.and_eq_true] at hB
  refine wpIn_region_any hm (wpAnyIn_of (noDefer_spec hnd) hlo _ _ _ _ (wpAny_of_quiet (C := fun w' => ∃ p : SomeW w, w' = p.W) (Q := fun a' => ∀ w', (∃ p : SomeW w, w' = p.W) → Q .normal a' w') (fun _ w' hw' h => h w' hw') _ _ _ _ ⟨⟨w.drew, (Below.refl _ w).drew⟩, rfl⟩ ?_))
  have := wpAnyQ_lex (C := fun w' => ∃ p : SomeW w, w' = p.W) (md := .any) hB.1 l 0 (Array.replicate l.toArray.size false) a (by simp) (by simpa using hB.2) h
  simpa using this
theorem ahead_T (a b : S27) (w : World) (h : a.f2.size ≤ 9223372036854775807) : Calls Try.prog 36 #[.agg (cellsT a), .agg (cellsT b)] w fun e w' => e = .returned (.bool (lessT a b)) ∧ Below w.heap.size w w' := by
  refine tithebarnref02_Ahead_c.calls a.f0 a.f1 a.f2 b.f0 b.f1 b.f2 _ w ?_
  unfold tithebarnref02_Ahead_c.f; rw [if_pos h]; rfl
theorem compare_T (a b : S27) (w : World) (h : a.f2.size ≤ 9223372036854775807) (h' : b.f2.size ≤ 9223372036854775807) : Calls Try.prog 37 #[.agg (cellsT a), .agg (cellsT b)] w fun e w' => e = .returned (.int .i64 (Thy.cmpV a.f0 a.f1 a.f2 b.f0 b.f1 b.f2)) ∧ Below w.heap.size w w' := by
  refine tithebarnref02_Compare_c.calls a.f0 a.f1 a.f2 b.f0 b.f1 b.f2 _ w ?_
  unfold tithebarnref02_Compare_c.f; rw [if_pos h, if_pos h']
theorem keepsFrom_below {B : Nat} {a b : World} (h : Below a.heap.size a b) : KeepsFrom B a b := ⟨h.size, fun k o _ hk _ => (h.block k (Array.getElem?_eq_some_iff.1 hk).1).trans hk⟩
theorem keepsFrom_set {B : Nat} {a b : World} (h : KeepsFrom B a b) (q j : Nat) (v : Value) : KeepsFrom B a (b.setCell ⟨q, j, none⟩ v) := h.trans ((KeepsOthers.setCell _ _ _).from _)
theorem keyT_mem {d : S25} (h : 0 < d.f1.length) : keyT d ∈ d.f1 := by
  have : keyT d = d.f1[0] := rdY_at d.f1 0 h
  rw [this]; exact List.getElem_mem h
theorem cells3 {w : World} {b : Nat} {x y : S27} (h : w.heap[b]? = some (.cells (cellsT x) 27 (0, 0))) : (((w.setCell ⟨b, 0, none⟩ (.bool y.f0)).setCell ⟨b, 1, none⟩ (.int .i64 y.f1)).setCell ⟨b, 2, none⟩ (.string y.f2)).heap[b]? = some (.cells (cellsT y) 27 (0, 0)) := blk_set (blk_set (blk_set h 0 _) 1 _) 2 _
/-- the loop's variables behind a round: the count, the last key -/
def OrdI (we wr : World) (ns : List (Sk.Nd S25)) (pre : List (S25 × Value)) (V : World) : Prop :=
  V.heap[wr.heap.size]? = some (.cells #[.int .i64 pre.length] 3 (0, 0)) ∧ (∃ lk : S27, (∀ x, pre.getLast? = some x → lk = keyT x.1) ∧ V.heap[wr.heap.size + 1]? = some (.cells (cellsT lk) 27 (0, 0))) ∧ SkL V (fun k => we.heap.size ≤ k ∧ k < wr.heap.size) we.heap.size ns ∧ Below we.heap.size we V
theorem ordFin {we wr U U3 : World} {ns : List (Sk.Nd S25)} {pre : List (S25 × Value)} {lk : S27} {d : S25} {v : Value} {B : Nat} {X : Nat → Prop} {m : Int} (q3 : U.heap[wr.heap.size]? = some (.cells #[.int .i64 pre.length] 3 (0, 0))) (q4 : U.heap[wr.heap.size + 1]? = some (.cells (cellsT lk) 27 (0, 0)))
    (q5 : SkL U (fun k => we.heap.size ≤ k ∧ k < wr.heap.size) we.heap.size ns) (q6 : Below we.heap.size we U) (hwr : we.heap.size ≤ wr.heap.size) (hb : Below U.heap.size U U3) (hX0 : X wr.heap.size) (hX1 : X (wr.heap.size + 1)) (hm : m = (pre.length : Int) + 1) :
    KeepsFrom B U ((((U3.setCell ⟨wr.heap.size + 1, 0, none⟩ (.bool (keyT d).f0)).setCell ⟨wr.heap.size + 1, 1, none⟩ (.int .i64 (keyT d).f1)).setCell ⟨wr.heap.size + 1, 2, none⟩ (.string (keyT d).f2)).setCell ⟨wr.heap.size, 0, none⟩ (.int .i64 m)) ∧
    Fr X U ((((U3.setCell ⟨wr.heap.size + 1, 0, none⟩ (.bool (keyT d).f0)).setCell ⟨wr.heap.size + 1, 1, none⟩ (.int .i64 (keyT d).f1)).setCell ⟨wr.heap.size + 1, 2, none⟩ (.string (keyT d).f2)).setCell ⟨wr.heap.size, 0, none⟩ (.int .i64 m)) ∧
    OrdI we wr ns (pre ++ [(d, v)]) ((((U3.setCell ⟨wr.heap.size + 1, 0, none⟩ (.bool (keyT d).f0)).setCell ⟨wr.heap.size + 1, 1, none⟩ (.int .i64 (keyT d).f1)).setCell ⟨wr.heap.size + 1, 2, none⟩ (.string (keyT d).f2)).setCell ⟨wr.heap.size, 0, none⟩ (.int .i64 m)) := by
  have hne : wr.heap.size ≠ wr.heap.size + 1 := by omega
  refine ⟨keepsFrom_set (keepsFrom_set (keepsFrom_set (keepsFrom_set (keepsFrom_below hb) _ _ _) _ _ _) _ _ _) _ _ _, ((((Fr.of_below hb).set (.inl hX1) _ _).set (.inl hX1) _ _).set (.inl hX1) _ _).set (.inl hX0) _ _, ?_, ⟨keyT d, fun x hx => ?_, ?_⟩, ?_, ?_⟩
  · have e : m = (((pre ++ [(d, v)]).length : Nat) : Int) := by rw [hm, List.length_append, List.length_singleton]; omega
    rw [← e]
    exact blk_set (cs := #[.int .i64 pre.length]) ((Sk.heap_set_ne _ _ 2 _ (.string (keyT d).f2) hne).trans ((Sk.heap_set_ne _ _ 1 _ (.int .i64 (keyT d).f1) hne).trans ((Sk.heap_set_ne _ _ 0 _ (.bool (keyT d).f0) hne).trans (blk_below q3 hb)))) 0 (.int .i64 m)
  · simp at hx; rw [← hx]
  · exact (Sk.heap_set_ne _ _ _ _ _ (fun h => hne h.symm)).trans (cells3 (blk_below q4 hb))
  · exact (q5.below hb).keep (fun k hk _ => by
      have h1 : k ≠ wr.heap.size := by have := hk.2; omega
      have h2 : k ≠ wr.heap.size + 1 := by have := hk.2; omega
      exact (Sk.heap_set_ne _ _ _ _ _ h1).trans ((Sk.heap_set_ne _ _ _ _ _ h2).trans ((Sk.heap_set_ne _ _ _ _ _ h2).trans (Sk.heap_set_ne _ _ _ _ _ h2))))
  · exact below_set (below_set (below_set (below_set (below_then q6 q6.size hb) (Nat.le_succ_of_le hwr)) (Nat.le_succ_of_le hwr)) (Nat.le_succ_of_le hwr)) hwr
end Go.Proofs.Ytnfliommpdjlkaa.Pr
end
