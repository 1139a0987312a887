/- SkL SkO SkR SkS SkT -/
import Derived.Test.YtnfliommpdjlkaaSkTwo
import Derived.Test.YtnfliommpdjlkaaPrf18
import Derived.Deep.RegionLaw
import Derived.RangeFuncNested
import Derived.RangeFuncBound
import Derived.RangeFuncCalls
import Derived.RangeFuncLeaves
import Derived.OwnWalkIn
import Derived.TacticsInMore
import Derived.LoopNIn
import Derived.LoopIn
import Derived.Sort.LoopGhostIn
import Derived.Stop.RegionWithIn
import Derived.RegionIn
section
namespace Go.Proofs.Ytnfliommpdjlkaa.Pr
open Go.RowKit Go.Proofs.Ytnfliommpdjlkaa.Brid Go.Proofs.YtnfliommpdjlkaaW.PrintWords Go.Proofs.YtnfliommpdjlkaaW.PrintLast Go.Proofs.YtnfliommpdjlkaaW.PrintMore
set_option linter.unusedVariables false
set_option linter.unusedSimpArgs false
set_option maxHeartbeats 4000000
set_option maxRecDepth 100000
theorem C_one {w : World} {b e : Nat} {x : S27} (h : w.heap[b]? = some (.cells (cellsT x) e (0, 0))) : Kd.C k27 w (some ⟨b, 0, none⟩) 1 [x] := by
  refine ⟨rfl, by simp, fun _ => ⟨_, rfl, fun j p hj => ?_⟩⟩
  have hj0 : j = 0 := by have := (List.getElem?_eq_some_iff.1 hj).1; simp at this; omega
  subst hj0
  simp at hj
  subst hj
  refine ⟨_, rfl, k27_mk w x, fun i u hi => ?_⟩
  rw [show 0 * k27.sz + i = i by omega, add_plain, blk_cell h]
  simpa using hi
theorem below_fr {w0 w w' : World} {O : Nat → Prop} (h : Below w0.heap.size w0 w) (f : Fr O w w') (hO : ∀ k, O k → w0.heap.size ≤ k) : Below w0.heap.size w0 w' :=
  ⟨f.os.trans h.os, f.tape.trans h.tape, f.output.trans h.output, Nat.le_trans h.size f.size, fun k hk => (f.block k (Nat.lt_of_lt_of_le hk h.size) (fun hh => by have := hO k hh; omega)).trans (h.block k hk)⟩
def numD (g : Bool) (n : Int) : S25 := ⟨g, [⟨false, n, ⟨#[]⟩⟩]⟩
theorem less_num (a b : Int) : lessT ⟨false, a, ⟨#[]⟩⟩ ⟨false, b, ⟨#[]⟩⟩ = decide (a < b) := by
  unfold lessT Thy.less
  by_cases h : a = b
  · subst h; simp [Thy.bl_irrefl]
  · simp [h]
theorem key_num (g : Bool) (n : Int) : keyT (numD g n) = ⟨false, n, ⟨#[]⟩⟩ := rfl
theorem lives_ds : putV (putV (putV (putV [] (numD false 3)) (numD false 1)) (numD false 2)) (numD true 1) = [numD true 1, numD false 2, numD false 3] := by
  simp [putV, preOf, postOf, key_num, less_num]
theorem lives_get : getV [numD true 1, numD false 2, numD false 3] ⟨false, 1, ⟨#[]⟩⟩ = some (numD true 1) := by
  simp [getV, postOf, key_num, less_num]
theorem lives_bytes : wrap64 (bytesI [numD true 1, numD false 2, numD false 3]) = 48 := by
  have : (⟨#[]⟩ : ByteArray).size = 0 := rfl
  simp [bytesI, sizeI, numD, this, wrap64]
theorem numPut (g : Bool) (n : Int) (w0 w1 : World) (p : Nat) (ns : List (Sk.Nd S25)) (ds : List S25) (HB : Below w0.heap.size w0 w1) (H : SkL w1 (fun k => w0.heap.size ≤ k) p ns) (hds : ns.map (·.d) = ds) (hl : ds.length ≤ 1000) :
    Calls Try.prog 16 #[.pointer (some ⟨p, 0, none⟩), .agg #[.bool g, .slice (some ⟨w1.heap.size, 0, none⟩) 1 1]] (w1.alloc (.cells #[.bool false, .int .i64 n, .string ⟨#[]⟩] 27)) fun e w' =>
      e = .returned (.bool true) ∧ Below w0.heap.size w0 w' ∧ ∃ ns', SkL w' (fun k => w0.heap.size ≤ k) p ns' ∧ ns'.map (·.d) = putV ds (numD g n) := by
  have hb := below_alloc (Below.refl w1.heap.size w1) (.cells #[.bool false, .int .i64 n, .string ⟨#[]⟩] 27)
  have hb0 := below_alloc HB (.cells #[.bool false, .int .i64 n, .string ⟨#[]⟩] 27)
  have hc := C_one (x := ⟨false, n, ⟨#[]⟩⟩) (heap_alloc_new w1 (.cells #[.bool false, .int .i64 n, .string ⟨#[]⟩] 27))
  have hlen : ns.length ≤ 1000 := by rw [← hds] at hl; simpa using hl
  refine (Put_T p (numD g n) (some ⟨w1.heap.size, 0, none⟩) 1 ns _ _ (H.below hb) hc (Nat.le_refl _) (by show 0 < 1; omega) (by show 1 ≤ _; omega) (by omega)).mono ?_
  rintro e w' ⟨he, hF, ns', H', hd⟩
  refine ⟨he, below_fr hb0 hF (fun k hk => hk), ns', H'.mono (fun k hk => ?_), by rw [hd, hds]⟩
  rcases hk with hk | hk
  · exact hk
  · exact Nat.le_trans hb0.size hk
theorem lives_T (w : World) : Calls Try.prog 14 #[] w fun e w' => e = .returned (.bool true) ∧ Below w.heap.size w w' := by
  go_enter Try.func14, Try.ntmps14
  go_wp2_with fail
  refine (New_T 1 w).mono ?_
  rintro e w1 ⟨rfl, hb1, H1⟩
  have HB1 := Aside0.mk hb1
  have HH1 := Aside0.mk H1
  clear hb1 H1
  go_wp2_with fail
  refine (numPut false 3 w w1 _ [] [] HB1.out HH1.out rfl (by simp)).mono ?_
  rintro e w2 ⟨rfl, hb2, n2, H2, hd2⟩
  have HB2 := Aside0.mk hb2
  have HH2 := Aside0.mk H2
  have HD2 := Aside0.mk hd2
  clear hb2 H2 hd2 HB1 HH1
  go_wp2_with fail
  refine (numPut false 1 w w2 _ n2 _ HB2.out HH2.out HD2.out (by simp [putV, preOf, postOf])).mono ?_
  rintro e w3 ⟨rfl, hb3, n3, H3, hd3⟩
  have HB3 := Aside0.mk hb3
  have HH3 := Aside0.mk H3
  have HD3 := Aside0.mk hd3
  clear hb3 H3 hd3 HB2 HH2 HD2
  go_wp2_with fail
  refine (numPut false 2 w w3 _ n3 _ HB3.out HH3.out HD3.out (by simp [putV, preOf, postOf, key_num, less_num])).mono ?_
  rintro e w4 ⟨rfl, hb4, n4, H4, hd4⟩
  have HB4 := Aside0.mk hb4
  have HH4 := Aside0.mk H4
  have HD4 := Aside0.mk hd4
  clear hb4 H4 hd4 HB3 HH3 HD3
  go_wp2_with fail
  refine (numPut true 1 w w4 _ n4 _ HB4.out HH4.out HD4.out (by simp [putV, preOf, postOf, key_num, less_num])).mono ?_
  rintro e w5 ⟨rfl, hb5, n5, H5, hd5⟩
  rw [lives_ds] at hd5
  have HB5 := Aside0.mk hb5
  have HH5 := Aside0.mk H5
  have HD5 := Aside0.mk hd5
  clear hb5 H5 hd5 HB4 HH4 HD4
  go_wp2_with fail
  refine (Get_T _ ⟨false, 1, ⟨#[]⟩⟩ n5 _ w5 HH5.out (fun n hn => ?_)).mono ?_
  · have : n.d ∈ n5.map (·.d) := List.mem_map_of_mem hn
    rw [HD5.out] at this
    simp only [List.mem_cons, List.not_mem_nil, or_false] at this
    rcases this with h | h | h <;> (rw [h]; show 1 ≤ _; omega)
  rintro e w6 ⟨hb6, hG⟩
  rw [HD5.out, lives_get] at hG
  obtain ⟨v, rfl, hR⟩ := hG
  obtain ⟨Av, cv, rfl⟩ := Kd.R_slice hR
  have hb7 := below_alloc hb6 (.cells #[.bool true, .slice Av (numD true 1).f1.length cv] 25)
  have HB7 := Aside0.mk (below_then HB5.out HB5.out.size hb7)
  have HH7 := Aside0.mk (HH5.out.below hb7)
  have hlen := Len_T _ _ _ _ HH7.out
  have hbyt := Bytes_T _ _ _ _ HH7.out
  have hn5 : n5.length = 3 := by have := congrArg List.length HD5.out; simpa using this
  rw [hn5] at hlen
  rw [HD5.out, lives_bytes] at hbyt
  clear hb6 hR hn5 hb7
  go_wp2_with (first | (go_at_call 29; refine hlen.mono ?_; rintro e w8 ⟨rfl, rfl⟩) | (go_at_call 30; refine hbyt.mono ?_; rintro e w8 ⟨rfl, rfl⟩))
  go_ret
  exact ⟨rfl, HB7.out⟩
end Go.Proofs.Ytnfliommpdjlkaa.Pr
end
section
namespace Go.Proofs.Ytnfliommpdjlkaa.Pr
open Go.RowKit Go.Proofs.Ytnfliommpdjlkaa.Brid Go.Proofs.YtnfliommpdjlkaaW.PrintWords Go.Proofs.YtnfliommpdjlkaaW.PrintLast Go.Proofs.YtnfliommpdjlkaaW.PrintMore
set_option linter.unusedVariables false
set_option linter.unusedSimpArgs false
set_option maxHeartbeats 4000000
set_option maxRecDepth 100000
/-- behind a part of the code: one of the frames F x, a world that is G x -/
def CutX {X : Type} (F : X → Act) (G : X → World → Prop) : Exit → Act → World → Prop
  | .normal, a', w' => ∃ x, a' = F x ∧ G x w'
  | _, _, _ => False
theorem wp_cutX_T {X : Type} {P : Program} {c : Code} {Q' : Exit → Act → World → Prop} {a : Act} {w : World} (F : X → Act) (G : X → World → Prop) (h1 : c.wp P (CutX F G) a w) (h2 : ∀ x w', G x w' → Q' .normal (F x) w') : c.wp P Q' a w := by
  refine Code.wp_mono (fun e a' w' hh => ?_) h1
  cases e with
  | normal => obtain ⟨x, rfl, hG⟩ := hh; exact h2 x w' hG
  | ret => exact hh.elim
  | exit id => exact hh.elim
  | goto t => exact hh.elim
  | panic c => exact hh.elim
  | outgrown => exact hh.elim
theorem sameV_self (l : List S27) : sameV l l = true := by
  have : ∀ l : List S27, (l.zip l).all (fun p => eqW p.1 p.2) = true := by
    intro l
    induction l with
    | nil => rfl
    | cons x r ih => rw [List.zip_cons_cons, List.all_cons, ih]; simp [eqW]
  rw [sameV, this]; simp
theorem same_T (g : Bool) (A : Option Addr) (c : Nat) (l : List S27) (g' : Bool) (A' : Option Addr) (c' : Nat) (l' : List S27) (w : World) (h : Kd.C k27 w A l.length l) (hc : l.length ≤ c) (h' : Kd.C k27 w A' l'.length l') (hc' : l'.length ≤ c') :
    Calls Try.prog 18 #[.agg #[.bool g, .slice A l.length c], .agg #[.bool g', .slice A' l'.length c']] w fun e w' => e = .returned (.bool ((g == g') && sameV l l')) ∧ Below w.heap.size w w' := by
  refine tithebarnref07_Same.calls g A c l g' A' c' l' _ w h hc h' hc' ?_
  unfold tithebarnref07_Same.f tithebarnref02_Same_c.f
  cases (g == g') <;> simp
/-- the block of a row that is not empty -/
theorem R_block {w : World} {base : Nat} {O : Nat → Prop} {A : Option Addr} {n c : Nat} {l : List S27} (h : Kd.R k27 27 w base O (.slice A n c) l) (hl : 0 < l.length) : ∃ g cur, A = some ⟨g, 0, none⟩ ∧ O g ∧ base ≤ g ∧ g < w.heap.size ∧ n = l.length ∧ n ≤ c ∧ w.heap[g]? = some (.cells cur 27 (0, 0)) ∧ cur.size = c * 3 := by
  obtain ⟨h0, inner, ho, _⟩ := h
  rcases ho.2 with ⟨_, hn⟩ | ⟨g, cap, cur, he, hb, hh, hnc, _, hsz, _⟩
  · omega
  · injection he with h1 h2 h3
    subst h1 h2 h3
    exact ⟨g, cur, rfl, h0 g rfl, hb, (Array.getElem?_eq_some_iff.1 hh).1, rfl, hnc, hh, hsz⟩
theorem C_app {δ : Type} (d : Kd δ) {w w1 : World} {A : Option Addr} {n : Nat} {l : List δ} (h : Kd.C d w A n l) (hb : Below w.heap.size w w1) : Kd.C d w1 A n l := Kd.C_below h hb
theorem getSelf (x : S25) : getV [x] (keyT x) = some x := by simp [getV, postOf, lessT_irrefl]
end Go.Proofs.Ytnfliommpdjlkaa.Pr
end
section
namespace Go.Proofs.Ytnfliommpdjlkaa.Pr
open Go.RowKit Go.Proofs.Ytnfliommpdjlkaa.Brid Go.Proofs.YtnfliommpdjlkaaW.PrintWords Go.Proofs.YtnfliommpdjlkaaW.PrintLast Go.Proofs.YtnfliommpdjlkaaW.PrintMore
set_option linter.unusedVariables false
set_option linter.unusedSimpArgs false
set_option maxHeartbeats 4000000
set_option maxRecDepth 100000
attribute [local go_sem] Oper.semAt_some
/-! A range over a function, at the wide fence, whose rounds are told something of what they are handed. -/
theorem keepsFrom_belowR {B : Nat} {a b : World} (h : Below a.heap.size a b) : KeepsFrom B a b := ⟨h.size, fun k o _ hk _ => (h.block k (Array.getElem?_eq_some_iff.1 hk).1).trans hk⟩
theorem keepsFrom_mono {B B' : Nat} {a b : World} (h : KeepsFrom B a b) (hB : B ≤ B') : KeepsFrom B' a b := ⟨h.size, fun k o hk ho hc => h.same k o (Nat.le_trans hB hk) ho hc⟩
theorem keepsFrom_putLow {B : Nat} (a : World) {l : Nat} (hl : l < B) (o : Obj) : KeepsFrom B a (a.putObj l o) := ⟨by simp, fun k o' hk ho _ => (World.putObj_heap_other (by omega)).trans ho⟩
/-- the contract of what is ranged over: each round is made in a world that is Good for what it is handed; what a round that goes on may turn: X -/
def SeqG {α : Type} (P : Program) (g : Nat) (lb : Array Value) (encs : α → Array Value) (Good : List α → α → World → Prop) (X : Nat → Prop) (S Sp : List α → Prop) (w : World) : Prop :=
  ∀ (l : Nat) (J Jx : List α → World → Prop) (W : World), Below w.heap.size w W → W.heap.size = w.heap.size + 2 → OwnFrom W.heap.size J → OwnFrom W.heap.size Jx →
    (∀ pre x V, J pre V → Good pre x V → W.heap.size ≤ V.heap.size → YieldAt Fence.wide 0 P l (encs x) V fun e V' =>
      (e = .returned (.bool true) ∧ J (pre ++ [x]) V' ∧ Fr X V V' ∧ KeepsFrom W.heap.size V V') ∨ (e = .returned (.bool false) ∧ Jx (pre ++ [x]) V' ∧ Fr X V V' ∧ KeepsFrom W.heap.size V V')) →
    J [] W →
    Calls P g (#[.func (.yield l) #[] #[]] ++ lb) W fun e V => (∃ v, e = .returned v) ∧ ((∃ xs, S xs ∧ J xs V) ∨ (∃ pre, Sp pre ∧ Jx pre V))
/-- how a round's body may be left -/
def postG {α : Type} (B : Nat) (X : Nat → Prop) (I : List α → World → Prop) (Ix : Code → List α → World → Prop) (xs : List α) (W : World) : Exit → Act → World → Prop
  | .normal, _, V => KeepsFrom B W V ∧ Fr X W V ∧ I xs V
  | .ret, _, V => KeepsFrom B W V ∧ Fr X W V ∧ Ix .ret xs V
  | .exit id, _, V => KeepsFrom B W V ∧ Fr X W V ∧ Ix (.exit id) xs V
  | _, _, _ => False
theorem Fr.putObj {X : Nat → Prop} {a b : World} (h : Fr X a b) {l : Nat} (hl : X l) (o : Obj) : Fr X a (b.putObj l o) :=
  ⟨h.os, h.tape, h.output, by simpa using h.size, fun i hi hn => (World.putObj_heap_other (fun e => hn (by rw [e]; exact hl))).trans (h.block i hi hn)⟩
theorem Fr.refl (X : Nat → Prop) (w : World) : Fr X w w := ⟨rfl, rfl, rfl, Nat.le_refl _, fun _ _ _ => rfl⟩
theorem wp_rangeG {α : Type} {P : Program} {g : Operand} {ps : Array Tmp} {assign body : Code} {Q : Exit → Act → World → Prop} {a : Act} {w : World} {gf : Nat} {lb : Array Value}
    (hg : a.eval g = .func (.func gf) #[] lb) (eg : ∀ args w, (callFunc gf args).run P w = .ok (.enter gf args) w)
    {encs : α → Array Value} {Good : List α → α → World → Prop} {X : Nat → Prop} {S Sp : List α → Prop} (hseq : SeqG P gf lb encs Good X S Sp w) (hX0 : X w.heap.size) (hX1 : X (w.heap.size + 1)) (hps : ∀ x, (encs x).size = ps.size)
    (I : List α → World → Prop) (Ix : Code → List α → World → Prop) (hI : OwnFrom w.heap.size I) (hIx : ∀ c, OwnFrom w.heap.size (Ix c)) (h0 : I [] w)
    (Ax : List α → α → Act → World → Prop) (hAx : ∀ pre x a', OwnFrom w.heap.size (fun (_ : Unit) W => Ax pre x a' W))
    (hassign : ∀ (l : Nat) (pre : List α) (x : α) (W : World) (K : Act → World → Prop), I pre W → Good pre x W → w.heap.size + 2 ≤ W.heap.size → (∀ a' V, KeepsFrom w.heap.size W V → Fr X W V → I pre V → Ax pre x a' V → K a' V) →
      assign.wpIn (Fence.wide.inRound l) 0 P (Exit.then K (fun _ _ _ => False)) { tmps := (ps.zip (encs x)).foldl (fun t (p, v) => t.setIfInBounds p v) a.tmps, defers := [] } W)
    (hbody : ∀ (l : Nat) (pre : List α) (x : α) (a' : Act) (W : World), I pre W → Ax pre x a' W → w.heap.size + 2 ≤ W.heap.size → body.wpIn (Fence.wide.inRound l) 0 P (postG w.heap.size X I Ix (pre ++ [x]) W) a' W)
    (hdone : ∀ (xs : List α) (W : World), S xs → I xs W → W.heap[w.heap.size]? = some (.deferred (some [])) → Q .normal { a with defers := { target := .collected w.heap.size, args := #[] } :: a.defers } W)
    (hstop : ∀ (c : Code) (pre : List α) (W : World), Sp pre → Ix c pre W → W.heap[w.heap.size]? = some (.deferred (some [])) → c.wp P Q { a with defers := { target := .collected w.heap.size, args := #[] } :: a.defers } W) :
    (Code.rangeFunc g ps assign body).wp P Q a w := by
  refine (wpIn_wide (n := 1)).1 (wpIn_rangeFunc fun fn _ => ?_)
  obtain ⟨R, hR⟩ : ∃ R : LoopState → Option Code → Loop, R = fun st pe => { state := st, pending := pe, fn, tmps := a.tmps, params := ps, assign, body, defers := w.heap.size } := ⟨_, rfl⟩
  have eD : (w.alloc (.deferred (some []))).heap.size = w.heap.size + 1 := by simp
  have hL0 : ((w.alloc (.deferred (some []))).alloc (.loop (R .ready none))).heap[w.heap.size + 1]? = some (.loop (R .ready none)) := by
    have := World.alloc_heap_new (w.alloc (.deferred (some []))) (.loop (R .ready none))
    rw [eD] at this; exact this
  have hD0 : ((w.alloc (.deferred (some []))).alloc (.loop (R .ready none))).heap[w.heap.size]? = some (.deferred (some [])) :=
    (Below.heap_alloc _ _ _ (by simp)).trans (World.alloc_heap_new w _)
  have hB0 : Below w.heap.size w ((w.alloc (.deferred (some []))).alloc (.loop (R .ready none))) := below_alloc (below_alloc (Below.refl _ _) _) _
  have hI0 : I [] ((w.alloc (.deferred (some []))).alloc (.loop (R .ready none))) := hI.alloc _ (hI.alloc _ h0)
  have hZ0 : ((w.alloc (.deferred (some []))).alloc (.loop (R .ready none))).heap.size = w.heap.size + 2 := by simp
  refine ⟨w.heap.size + 1, [{ target := .collected w.heap.size, args := #[] }], ((w.alloc (.deferred (some []))).alloc (.loop (R .ready none))), { target := .fn (.func gf) lb, args := #[.func (.yield (w.heap.size + 1)) #[] #[]] }, ((w.alloc (.deferred (some []))).alloc (.loop (R .ready none))), gf, #[.func (.yield (w.heap.size + 1)) #[] #[]] ++ lb, ((w.alloc (.deferred (some []))).alloc (.loop (R .ready none))), ?_, ?_, fun _ _ => trivial, ?_, fun h => absurd h (by simp [Fence.wide]), ?_⟩
  · rw [hR]; exact run_enterLoop_outer _ _ _ _ _
  · simp only [resolve, hg]
    simp [go_sem]
  · simp [invoke, go_sem, eg]
  refine callsIn_wide.2 ?_
  generalize (w.alloc (.deferred (some []))).alloc (.loop (R .ready none)) = W0 at *
  have hfar : ∀ {A B : World} {row : Option Nat} {k : Nat} {o : Obj}, A.grownBy B row → (∀ r, row = some r → W0.heap.size ≤ r ∧ ∃ o : Obj, A.heap[r]? = some o ∧ o.isCells = false) → k < W0.heap.size → A.heap[k]? = some o → B.heap[k]? = some o :=
    fun hgr hr hk ho => (hgr.block _ (Array.getElem?_eq_some_iff.1 ho).1 (fun e => by have := (hr _ e.symm).1; omega)).trans ho
  have hlow : ∀ {row : Option Nat} {A : World}, (∀ r, row = some r → W0.heap.size ≤ r ∧ ∃ o : Obj, A.heap[r]? = some o ∧ o.isCells = false) → (∀ r, row = some r → w.heap.size ≤ r ∧ ∃ o : Obj, A.heap[r]? = some o ∧ o.isCells = false) :=
    fun hr r e => ⟨by have := (hr r e).1; omega, (hr r e).2⟩
  refine (hseq (w.heap.size + 1)
    (fun pre W => I pre W ∧ W.heap[w.heap.size + 1]? = some (.loop (R .ready none)) ∧ W.heap[w.heap.size]? = some (.deferred (some [])))
    (fun pre W => ∃ c, Ix c pre W ∧ W.heap[w.heap.size + 1]? = some (.loop (R .done (some c))) ∧ W.heap[w.heap.size]? = some (.deferred (some [])))
    W0 hB0 hZ0
    (fun s A B row hs hgr hr => ⟨hI s A B row hs.1 hgr (hlow hr), hfar hgr hr (by omega) hs.2.1, hfar hgr hr (by omega) hs.2.2⟩)
    (fun s A B row hs hgr hr => by
      obtain ⟨c, h1, h2, h3⟩ := hs
      exact ⟨c, hIx c s A B row h1 hgr (hlow hr), hfar hgr hr (by omega) h2, hfar hgr hr (by omega) h3⟩)
    ?_ ⟨hI0, hL0, hD0⟩).mono ?_
  · -- a round
    rintro pre x V ⟨hi, hl, hd⟩ hgood hVs
    have hlt : w.heap.size + 1 < V.heap.size := (Array.getElem?_eq_some_iff.1 hl).1
    have hy := run_yield (P := P) (args := encs x) hl (by rw [hR]; exact hps x)
    rw [hR] at hy
    refine ⟨fn, _, assign, body, hy, roundIn_of_wpIn (n := 0) trivial (hassign _ pre x V _ hi hgood (by omega) fun a' V1 hk1 hf1 hi1 hA1 => ?_)⟩
    have hl1 := hk1.same _ _ (Nat.le_succ _) hl rfl
    have hd1 := hk1.same _ _ (Nat.le_refl _) hd rfl
    have hlt1 : w.heap.size + 1 < V1.heap.size := (Array.getElem?_eq_some_iff.1 hl1).1
    refine ⟨_, run_beginRound hl1 (by rw [hR]), ?_⟩
    have hl2 : (V1.putObj (w.heap.size + 1) (.loop { R .ready none with state := .busy })).heap[w.heap.size + 1]? = some (.loop { R .ready none with state := .busy }) := World.putObj_heap_same hlt1
    have hd2 : (V1.putObj (w.heap.size + 1) (.loop { R .ready none with state := .busy })).heap[w.heap.size]? = some (.deferred (some [])) := (World.putObj_heap_other (by omega)).trans hd1
    have hf2 := hf1.putObj hX1 (.loop { R .ready none with state := .busy })
    have hi2 := hI.putObj (.loop { R .ready none with state := .busy }) hi1 (Nat.le_succ _) hl1 rfl
    have hA2 := (hAx pre x a').putObj (s := ()) (.loop { R .ready none with state := .busy }) hA1 (Nat.le_succ _) hl1 rfl
    refine wpIn_mono (hbody _ pre x a' _ hi2 hA2 (by simp; omega)) ?_
    have fin : ∀ (jump : Option Code) (V3 : World), KeepsFrom w.heap.size (V1.putObj (w.heap.size + 1) (.loop { R .ready none with state := .busy })) V3 →
        (Instr.endRound (w.heap.size + 1) jump).run P V3 = .ok (.bool jump.isNone) (V3.putObj (w.heap.size + 1) (.loop (R (if jump.isNone then .ready else .done) jump))) ∧
        V3.heap[w.heap.size + 1]? = some (.loop { R .ready none with state := .busy }) ∧
        (V3.putObj (w.heap.size + 1) (.loop (R (if jump.isNone then .ready else .done) jump))).heap[w.heap.size + 1]? = some (.loop (R (if jump.isNone then .ready else .done) jump)) ∧
        (V3.putObj (w.heap.size + 1) (.loop (R (if jump.isNone then .ready else .done) jump))).heap[w.heap.size]? = some (.deferred (some [])) := fun jump V3 hk3 => by
      have hl3 := hk3.same _ _ (Nat.le_succ _) hl2 rfl
      have h := run_endRound (P := P) jump hl3
      rw [hR] at h ⊢
      exact ⟨h, by rw [hR] at hl3; exact hl3, World.putObj_heap_same (Array.getElem?_eq_some_iff.1 hl3).1, (World.putObj_heap_other (by omega)).trans (hk3.same _ _ (Nat.le_refl _) hd2 rfl)⟩
    have hkk : ∀ {V3 : World}, KeepsFrom w.heap.size (V1.putObj (w.heap.size + 1) (.loop { R .ready none with state := .busy })) V3 → ∀ o : Obj, KeepsFrom W0.heap.size V (V3.putObj (w.heap.size + 1) o) := fun {V3} hk3 o =>
      (keepsFrom_mono hk1 (by omega)).trans ((keepsFrom_putLow V1 (by omega) _).trans ((keepsFrom_mono hk3 (by omega)).trans (keepsFrom_putLow V3 (by omega) _)))
    rintro e a3 V3 hp
    cases e with
    | normal =>
      obtain ⟨hk3, hf3, hi3⟩ := hp
      obtain ⟨hr, hl3, hl4, hd4⟩ := fin none V3 hk3
      exact ⟨_, _, hr, .inl ⟨rfl, ⟨hI.putObj _ hi3 (Nat.le_succ _) hl3 rfl, hl4, hd4⟩, (hf2.trans hf3).putObj hX1 _, hkk hk3 _⟩⟩
    | ret =>
      obtain ⟨hk3, hf3, hi3⟩ := hp
      obtain ⟨hr, hl3, hl4, hd4⟩ := fin (some .ret) V3 hk3
      exact ⟨_, _, hr, .inr ⟨rfl, ⟨.ret, (hIx _).putObj _ hi3 (Nat.le_succ _) hl3 rfl, hl4, hd4⟩, (hf2.trans hf3).putObj hX1 _, hkk hk3 _⟩⟩
    | exit id =>
      obtain ⟨hk3, hf3, hi3⟩ := hp
      obtain ⟨hr, hl3, hl4, hd4⟩ := fin (some (.exit id)) V3 hk3
      exact ⟨_, _, hr, .inr ⟨rfl, ⟨.exit id, (hIx _).putObj _ hi3 (Nat.le_succ _) hl3 rfl, hl4, hd4⟩, (hf2.trans hf3).putObj hX1 _, hkk hk3 _⟩⟩
    | goto t => exact hp.elim
    | panic ch => exact hp.elim
    | outgrown => exact hp.elim
  · -- behind it
    rintro e V2 ⟨⟨v, rfl⟩, (⟨xs, hS, hi, hl, hd⟩ | ⟨pre, hSp, c, hi, hl, hd⟩)⟩
    · have h := run_endLoop (P := P) hl (by rw [hR]; simp)
      rw [hR] at h
      exact ⟨none, _, h, hdone xs _ hS (hI.putObj _ hi (Nat.le_succ _) hl rfl) ((World.putObj_heap_other (by omega)).trans hd)⟩
    · have h := run_endLoop (P := P) hl (by rw [hR]; simp)
      rw [hR] at h
      exact ⟨some c, _, h, wpIn_wide.2 (hstop c pre _ hSp ((hIx c).putObj _ hi (Nat.le_succ _) hl rfl) ((World.putObj_heap_other (by omega)).trans hd))⟩
end Go.Proofs.Ytnfliommpdjlkaa.Pr
end
section
namespace Go.Proofs.Ytnfliommpdjlkaa.Pr
open Go.RowKit Go.Proofs.Ytnfliommpdjlkaa.Brid Go.Proofs.YtnfliommpdjlkaaW.PrintWords Go.Proofs.YtnfliommpdjlkaaW.PrintLast Go.Proofs.YtnfliommpdjlkaaW.PrintMore
set_option linter.unusedVariables false
set_option linter.unusedSimpArgs false
set_option maxHeartbeats 4000000
set_option maxRecDepth 100000
attribute [local go_sem] Oper.semAt_some
theorem nxt0 {v : List (Sk.Nd S25)} (h : ∀ n ∈ v, 0 < n.h) : Sk.nxt 0 v = v.head?.map (·.b) := by
  cases v with
  | nil => rfl
  | cons n r => rw [Sk.nxt_cons_hit (h n List.mem_cons_self)]; rfl
theorem behind_T (b : Nat) (w : World) : Calls Try.prog 57 #[.pointer (some ⟨b, 0, none⟩)] w fun e w' => e = .returned (.func (.func 60) #[] #[.pointer (some ⟨w.heap.size, 0, none⟩)]) ∧ w' = w.alloc (.cells #[.pointer (some ⟨b, 0, none⟩)] 66) := by
  go_enter Try.func57, Try.ntmps57
  go_wp2
  go_ret
  exact ⟨rfl, rfl⟩
theorem behind_G (p bb : Nat) (u v : List (Sk.Nd S25)) (O X : Nat → Prop) (c b : Int) (w : World) (M : SkM w O p (u ++ v) c b) (hpos : ∀ n ∈ u ++ v, 0 < n.h) (hb : w.heap[bb]? = some (.cells #[.pointer (some ⟨Sk.lst p 0 u, 0, none⟩)] 66 (0, 0))) (hXb : ¬ X bb) (hXO : ∀ k, O k → ¬ X k) :
    SeqG Try.prog 60 #[.pointer (some ⟨bb, 0, none⟩)] (fun n : Sk.Nd S25 => #[.pointer (some ⟨n.b, 0, none⟩)]) (fun pre n _ => pre ++ [n] <+: v) X (fun xs => xs = v) (fun pre => pre <+: v) w := by
  intro l J Jx W hBW hZ hJ hJx hY hJ0
  clear hZ
  refine (callsIn_wide (n := 1)).1 (callsIn_of_wp Try.func60 rfl trivial ?_ rfl)
  simp only [Try.ntmps60, List.size_toArray, List.length_cons, List.length_nil, Nat.reduceAdd, Nat.reduceSub, Array.replicate_succ, Array.replicate_zero, List.push_toArray, List.append_toArray, List.nil_append, List.cons_append]
  have hbW := blk_below hb hBW
  have hc0 := (blk_cell hbW 0).trans rfl
  have hMW := Aside0.mk (M.below hBW)
  have hlk := hMW.out.chain.link (u := u) (v := v) rfl 0 (by omega)
  rw [nxt0 (fun n hn => hpos n (List.mem_append_right _ hn))] at hlk
  have HJ0 := Aside0.mk hJ0
  have HY := Aside0.mk hY
  have HXO := Aside0.mk hXO
  have HPOS := Aside0.mk hpos
  have HHB := Aside0.mk hb
  clear hJ0 hY hJ hJx hbW hXO hpos M hBW hb hXb
  gi_wp2
  gi_loopg [3] v.length (fun kx a wr => ∃ (pre rest : List (Sk.Nd S25)), v = pre ++ rest ∧ a = Sk.ptr (rest.head?.map (·.b)) ∧ rest.length ≤ kx ∧ Aside0 (J pre wr) ∧ Aside0 (Fr X W wr))
  case atStart => exact ⟨[], v, rfl, rfl, Nat.le_refl _, HJ0, ⟨Fr.refl _ _⟩⟩
  case round =>
    clear HJ0 hlk hc0
    obtain ⟨pre, rest, hv, ha, hkx, HJ, HF⟩ := hrel
    cases rest with
    | nil =>
      replace ha : u3 = .pointer none := ha
      subst ha
      rw [List.append_nil] at hv
      have HV := Aside0.mk hv
      clear hv
      gi_wp2
      refine ⟨fun _ h => (by cases h), ?_⟩
      gi_wp2
      go_end0
      exact ⟨⟨_, rfl⟩, .inl ⟨_, HV.out.symm, HJ.out⟩⟩
    | cons n rest =>
      replace ha : u3 = .pointer (some ⟨n.b, 0, none⟩) := ha
      subst ha
      have HV := Aside0.mk hv
      obtain ⟨fn, tmps, assign, body, hy, hR⟩ := HY.out pre n wr HJ.out ⟨rest, by rw [hv]; simp⟩ HF.out.size
      clear hv
      gi_wp2
      refine hR.mono ?_
      rintro e W3 (⟨rfl, hJ3, hF3, _⟩ | ⟨rfl, hJx3, _⟩)
      · have HF3 := Aside0.mk (HF.out.trans hF3)
        have HJ3 := Aside0.mk hJ3
        have hl3 := ((hMW.out.keep (fun k hk hkl => HF3.out.block k hkl (HXO.out k hk))).chain.node (u ++ pre) n rest (by rw [HV.out]; simp)).link 0 (by omega)
        rw [Sk.ptrAt, if_pos (HPOS.out n (by rw [HV.out]; simp)), nxt0 (fun m hm => HPOS.out m (by rw [HV.out]; simp [hm]))] at hl3
        have hl3 : W3.cell? ⟨n.b, 2, none⟩ = some (Sk.ptr (rest.head?.map (·.b))) := hl3
        clear hJ3 hF3 hR hy
        gi_wp2
        gi_roundg rest.length
        case measure => simp at hkx; omega
        case rel => exact ⟨pre ++ [n], rest, by rw [HV.out]; simp, rfl, Nat.le_refl _, HJ3, HF3⟩
      · have HJ3 := Aside0.mk hJx3
        clear hJx3 hR hy
        gi_wp2
        go_end0
        exact ⟨⟨_, rfl⟩, .inr ⟨pre ++ [n], ⟨rest, by rw [HV.out]; simp⟩, HJ3.out⟩⟩
end Go.Proofs.Ytnfliommpdjlkaa.Pr
end
section
namespace Go.Proofs.Ytnfliommpdjlkaa.Pr
open Go.RowKit Go.Proofs.Ytnfliommpdjlkaa.Brid Go.Proofs.YtnfliommpdjlkaaW.PrintWords Go.Proofs.YtnfliommpdjlkaaW.PrintLast Go.Proofs.YtnfliommpdjlkaaW.PrintMore
set_option linter.unusedVariables false
set_option linter.unusedSimpArgs false
set_option maxHeartbeats 4000000
set_option maxRecDepth 100000
attribute [local go_sem] Oper.semAt_some
theorem given_T (b : Nat) (w : World) : Calls Try.prog 51 #[.pointer (some ⟨b, 0, none⟩)] w fun e w' => e = .returned (.func (.func 56) #[] #[.pointer (some ⟨w.heap.size, 0, none⟩)]) ∧ w' = w.alloc (.cells #[.pointer (some ⟨b, 0, none⟩)] 66) := by
  go_enter Try.func51, Try.ntmps51
  go_wp2
  go_ret
  exact ⟨rfl, rfl⟩
/-- what a round of the deeds is handed: the next deed, its row of its own -/
def GoodD (n0 : Nat) (ds : List S25) (pre : List (S25 × Value)) (x : S25 × Value) (V : World) : Prop :=
  pre.map (·.1) ++ [x.1] <+: ds ∧ Kd.R k27 27 V n0 (fun _ => True) x.2 x.1.f1 ∧ Kd.R k27 27 V (n0 + 4) (fun _ => True) x.2 x.1.f1 ∧ n0 + 4 ≤ V.heap.size
theorem given_GX (p gb : Nat) (u v : List (Sk.Nd S25)) (O X : Nat → Prop) (c b : Int) (w : World) (M : SkM w O p (u ++ v) c b) (hpos : ∀ n ∈ u ++ v, 0 < n.h) (hlen : ∀ n ∈ u ++ v, n.d.f1.length ≤ 4398046511103)
    (hb : w.heap[gb]? = some (.cells #[.pointer (some ⟨Sk.lst p 0 u, 0, none⟩)] 66 (0, 0))) (hXb : ¬ X gb) (hXO : ∀ k, O k → k < w.heap.size ∧ ¬ X k) (hXl : ∀ k, X k → k < w.heap.size + 2 ∨ w.heap.size + 4 ≤ k) :
    SeqG Try.prog 56 #[.pointer (some ⟨gb, 0, none⟩)] (fun x : S25 × Value => #[.agg #[.bool x.1.f0, x.2]]) (GoodD w.heap.size (v.map (·.d))) X (fun xs => xs.map (·.1) = v.map (·.d)) (fun pre => pre.map (·.1) <+: v.map (·.d)) w := by
  intro l J Jx W hBW hZ hJ hJx hY hJ0
  have HZ := Aside0.mk hZ
  clear hZ
  refine (callsIn_wide (n := 1)).1 (callsIn_of_wp_marks Try.func56 rfl trivial ?_ rfl)
  simp only [Try.ntmps56, List.size_toArray, List.length_cons, List.length_nil, Nat.reduceAdd, Nat.reduceSub, Array.replicate_succ, Array.replicate_zero, List.push_toArray, List.append_toArray, List.nil_append, List.cons_append]
  refine wpIn_wide.2 ?_
  have hbW := blk_below hb hBW
  have hc0 := (blk_cell (blk_alloc hbW (.cells #[.func (.yield l) #[] #[]] 32)) 0).trans rfl
  have HM := Aside0.mk M
  have HJ := Aside0.mk hJ
  have HJx := Aside0.mk hJx
  have HY := Aside0.mk hY
  have HJ0 := Aside0.mk hJ0
  have HXO := Aside0.mk hXO
  have HXL := Aside0.mk hXl
  have HPOS := Aside0.mk hpos
  have HLEN := Aside0.mk hlen
  have HBW := Aside0.mk hBW
  have HXb := Aside0.mk hXb
  clear M hJ hJx hY hJ0 hXO hXl hpos hlen hBW hXb hb hbW
  go_wp2_with (go_at_call 57; refine (behind_T _ _).mono ?_; rintro e w' ⟨rfl, rfl⟩)
  have b2 : Below W.heap.size W ((W.alloc (.cells #[.func (.yield l) #[] #[]] 32)).alloc (.cells #[.pointer (some ⟨Sk.lst p 0 u, 0, none⟩)] 66)) := below_alloc (below_alloc (Below.refl _ _) _) _
  have z2 : ((W.alloc (.cells #[.func (.yield l) #[] #[]] 32)).alloc (.cells #[.pointer (some ⟨Sk.lst p 0 u, 0, none⟩)] 66)).heap.size = W.heap.size + 2 := by simp
  have ky : ((W.alloc (.cells #[.func (.yield l) #[] #[]] 32)).alloc (.cells #[.pointer (some ⟨Sk.lst p 0 u, 0, none⟩)] 66)).heap[W.heap.size]? = some (.cells #[.func (.yield l) #[] #[]] 32 (0, 0)) := blk_alloc (heap_alloc_new W _) _
  have kb : ((W.alloc (.cells #[.func (.yield l) #[] #[]] 32)).alloc (.cells #[.pointer (some ⟨Sk.lst p 0 u, 0, none⟩)] 66)).heap[W.heap.size + 1]? = some (.cells #[.pointer (some ⟨Sk.lst p 0 u, 0, none⟩)] 66 (0, 0)) := by
    have := heap_alloc_new (W.alloc (.cells #[.func (.yield l) #[] #[]] 32)) (.cells #[.pointer (some ⟨Sk.lst p 0 u, 0, none⟩)] 66)
    rwa [show (W.alloc (.cells #[.func (.yield l) #[] #[]] 32)).heap.size = W.heap.size + 1 by simp] at this
  have HJ2 := Aside0.mk (HJ.out [] _ _ none HJ0.out (World.grownBy_alloc W (.cells #[.func (.yield l) #[] #[]] 32) none) (fun r e => by cases e))
  have HJ2 := Aside0.mk (HJ.out [] _ _ none HJ2.out (World.grownBy_alloc _ (.cells #[.pointer (some ⟨Sk.lst p 0 u, 0, none⟩)] 66) none) (fun r e => by cases e))
  have hww : w.heap.size + 2 ≤ W.heap.size := Nat.le_of_eq HZ.out.symm
  have HKY := Aside0.mk ky
  have HKB := Aside0.mk kb
  have HB2 := Aside0.mk b2
  clear ky kb b2 hc0
  generalize ((W.alloc (.cells #[.func (.yield l) #[] #[]] 32)).alloc (.cells #[.pointer (some ⟨Sk.lst p 0 u, 0, none⟩)] 66)) = w2 at *
  have HM2 := Aside0.mk (HM.out.below (below_then HBW.out HBW.out.size HB2.out))
  refine wp_rangeG (gf := 60) (lb := #[.pointer (some ⟨W.heap.size + 1, 0, none⟩)]) rfl (enters_of Try.func60 (by kernel_rfl) rfl)
    (X := fun k => X k ∨ k = w2.heap.size ∨ k = w2.heap.size + 1)
    (behind_G p (W.heap.size + 1) u v O (fun k => X k ∨ k = w2.heap.size ∨ k = w2.heap.size + 1) c b w2 HM2.out HPOS.out HKB.out (fun h => by
      rcases h with h | h | h
      · have := HXL.out _ h; have := HZ.out; omega
      · omega
      · omega) (fun k hk h => by
      have hk2 := HXO.out k hk
      rcases h with h | h | h
      · exact hk2.2 h
      · omega
      · omega)) (.inr (.inl rfl)) (.inr (.inr rfl)) (fun _ => rfl)
    (fun pre2 V => (∃ xs, xs.map (·.1) = pre2.map (·.d) ∧ J xs V) ∧ SkM V O p (u ++ v) c b ∧ V.heap[W.heap.size]? = some (.cells #[.func (.yield l) #[] #[]] 32 (0, 0)) ∧ W.heap.size ≤ V.heap.size)
    (fun cd pre2 V => cd = .ret ∧ ∃ xs, xs.map (·.1) <+: v.map (·.d) ∧ Jx xs V)
    ?hI ?hIx ⟨⟨[], rfl, HJ2.out⟩, HM2.out, HKY.out, ?hF⟩
    (fun pre n a' V => a' = { tmps := #[.func (.yield l) #[] #[], .pointer (some ⟨gb, 0, none⟩), .pointer (some ⟨W.heap.size, 0, none⟩), .pointer (some ⟨n.b, 0, none⟩), .pointer (some ⟨Sk.lst p 0 u, 0, none⟩), .func (.func 60) #[] #[.pointer (some ⟨W.heap.size + 1, 0, none⟩)], .pointer (some ⟨n.b, 0, none⟩), undef, undef, undef, undef, undef, undef, undef, undef], defers := [] } ∧ pre ++ [n] <+: v)
    (fun pre x a' => ownFrom_pure _ _) ?assign ?body ?done ?stop
  case hF => exact HB2.out.size
  case hI =>
    rintro s A B row ⟨⟨xs, hx, hj⟩, hm, hk, hf⟩ hg hr
    have hrow : ∀ r, row = some r → w2.heap.size ≤ r := fun r e => (hr r e).1
    refine ⟨⟨xs, hx, HJ.out xs A B row hj hg (fun r e => ⟨by have := hrow r e; omega, (hr r e).2⟩)⟩, hm.keep (fun k hk hkl => hg.block k hkl (fun e => by have := hrow k e.symm; have := HXO.out k hk; omega)), (hg.block _ (Array.getElem?_eq_some_iff.1 hk).1 (fun e => by have := hrow _ e.symm; omega)).trans hk, Nat.le_trans hf hg.size⟩
  case hIx =>
    rintro cd s A B row ⟨hc, xs, hx, hj⟩ hg hr
    exact ⟨hc, xs, hx, HJx.out xs A B row hj hg (fun r e => ⟨by have := (hr r e).1; omega, (hr r e).2⟩)⟩
  case assign =>
    intro l2 pre n V K hi hgood hV hK
    gi_wp2
    exact hK _ _ (KeepsFrom.refl _ _) (Fr.refl _ _) hi ⟨rfl, hgood⟩
  case body =>
    rintro l2 pre n a' V ⟨⟨xs, hxs, hj⟩, hm, hk, hf⟩ ⟨rfl, hpre⟩ hV
    obtain ⟨rest, hrest⟩ := hpre
    have hv : u ++ v = (u ++ pre) ++ n :: rest := by rw [← hrest]; simp
    have hmem : n ∈ u ++ v := by rw [hv]; simp
    obtain ⟨A, cc, hnv, hcc, hC, hln⟩ := hm.rowsOk n hmem
    have n0 := (hm.chain.node (u ++ pre) n rest hv).c0
    have n1 := (hm.chain.node (u ++ pre) n rest hv).c1
    rw [hnv] at n1
    have k0 := (blk_cell hk 0).trans rfl
    have hown := own_T n.d.f0 (some A) cc n.d.f1 V hC hcc (HLEN.out n hmem)
    have HOWN := Aside0.mk (fun V1 (hB : Below V.heap.size V V1) => (own_T n.d.f0 (some A) cc n.d.f1 V1 (Kd.C_below hC hB) hcc (HLEN.out n hmem)).mono (R' := fun e V3 => ∃ v3 : Value, e = .returned (.agg #[.bool n.d.f0, v3]) ∧ Below V.heap.size V V3 ∧ V3.cell? ⟨W.heap.size, 0, none⟩ = some (.func (.yield l) #[] #[]) ∧
        YieldAt Fence.wide 0 Try.prog l #[.agg #[.bool n.d.f0, v3]] V3 fun e V' => ∃ bq : Bool, e = .returned (.bool bq) ∧ ((bq = true ∧ Fr X V V' ∧ KeepsFrom W.heap.size V V' ∧ ∃ xs, xs.map (·.1) = (pre ++ [n]).map (·.d) ∧ J xs V') ∨ (bq = false ∧ Fr X V V' ∧ KeepsFrom W.heap.size V V' ∧ ∃ xs, xs.map (·.1) <+: v.map (·.d) ∧ Jx xs V'))) (fun e V3 h => by
      obtain ⟨v3, he, hR3, hb3⟩ := h
      have hB3 := below_then hB hB.size hb3
      refine ⟨v3, he, hB3, (Below.cell hB3 (World.block_lt_of_cell? _ _ k0)).trans k0, ?_⟩
      have hj3 : J xs V3 := HJ.out xs V V3 none hj (grown_of_below hB3 _) (fun r e => by cases e)
      have hgood : GoodD w.heap.size (v.map (·.d)) xs (n.d, v3) V3 := ⟨⟨rest.map (·.d), by rw [hxs, ← hrest]; simp⟩, Kd.R_lower hR3 (by have := hB.size; omega), Kd.R_lower hR3 (by have := hB.size; omega), by have := hB3.size; omega⟩
      exact (HY.out xs (n.d, v3) V3 hj3 hgood (Nat.le_trans hf hB3.size)).mono (fun e V' h => by
        rcases h with ⟨he, hj', hfr, hkp⟩ | ⟨he, hj', hfr, hkp⟩
        · exact ⟨true, he, .inl ⟨rfl, (Fr.of_below hB3).trans hfr, (keepsFrom_belowR hB3).trans hkp, xs ++ [(n.d, v3)], by simp [hxs], hj'⟩⟩
        · exact ⟨false, he, .inr ⟨rfl, (Fr.of_below hB3).trans hfr, (keepsFrom_belowR hB3).trans hkp, xs ++ [(n.d, v3)], ⟨rest.map (·.d), by rw [List.map_append, hxs, ← hrest]; simp⟩, hj'⟩⟩)))
    have HM := Aside0.mk hm
    have HK := Aside0.mk hk
    have HV := Aside0.mk hv
    have HF := Aside0.mk hf
    have HRR := Aside0.mk hrest
    clear hm hk hv hf hj hxs hown hmem hC hcc hln hnv hrest
    gi_wp2
    gi_region_with (first
      | (refine ⟨trivial, rfl, ?_⟩; gi_at_call 43; refine (CallsIn.inRound l2 (callsIn_wide.2 (HOWN.out _ ?_))).mono ?_; (first | exact Below.refl _ _ | exact below_drew1 (Below.refl _ _)); rintro e V3 ⟨v3, rfl, hb3, k3, fn, tmps, assign, body, hy, hR⟩)
      | (refine ⟨rfl, ?_⟩; refine hR.mono ?_; rintro e V4 ⟨bq, rfl, hq⟩))
    all_goals have hX2 : ∀ k, X k → X k ∨ k = w2.heap.size ∨ k = w2.heap.size + 1 := fun k h => .inl h
    all_goals rcases hq with ⟨rfl, hfr, hkp, hxs'⟩ | ⟨rfl, hfr, hkp, hxs'⟩
    all_goals
      have hkf : KeepsFrom w2.heap.size V V4 := keepsFrom_mono hkp (by omega)
      have HKF := Aside0.mk hkf
      have HFR := Aside0.mk (hfr.mono (fun k _ h => hX2 k h))
      have HXS := Aside0.mk hxs'
      have HSZ := Aside0.mk hfr.size
      have HM4 := Aside0.mk (HM.out.keep (fun k hk hkl => hfr.block k hkl (fun h => (HXO.out k hk).2 h)))
      have HK4 := Aside0.mk ((hfr.block _ (Array.getElem?_eq_some_iff.1 HK.out).1 (fun h => by have := HXL.out _ h; have := HZ.out; omega)).trans HK.out)
      clear hkf hkp hfr hxs' hX2 hy hR k3 hb3
      gi_wp2
      first
        | exact ⟨HKF.out, HFR.out, HXS.out, HM4.out, HK4.out, Nat.le_trans HF.out HSZ.out⟩
        | exact ⟨HKF.out, HFR.out, rfl, HXS.out⟩
  case done =>
    rintro pre2 V rfl ⟨⟨xs, hxs, hj⟩, hm, hk, hf⟩ hD
    have HJ3 := Aside0.mk (HJ.out xs V _ (some w2.heap.size) hj (grownBy_putObj' V w2.heap.size (.deferred none)) (fun r e => by cases e; exact ⟨by omega, _, hD, rfl⟩))
    have HXS := Aside0.mk hxs
    clear hj hxs hm hk hf
    go_wp2
    refine ⟨by simp, .inl ⟨_, _, rfl, run_takeDeferred hD, ?_⟩⟩
    exact ⟨_, results_none rfl _ _ _, ⟨_, rfl⟩, .inl ⟨xs, HXS.out, HJ3.out⟩⟩
  case stop =>
    rintro cd pre2 V _ ⟨rfl, xs, hxs, hj⟩ hD
    have HJ3 := Aside0.mk (HJx.out xs V _ (some w2.heap.size) hj (grownBy_putObj' V w2.heap.size (.deferred none)) (fun r e => by cases e; exact ⟨by omega, _, hD, rfl⟩))
    have HXS := Aside0.mk hxs
    clear hj hxs
    go_wp2
    refine ⟨by simp, .inl ⟨_, _, rfl, run_takeDeferred hD, ?_⟩⟩
    exact ⟨_, results_none rfl _ _ _, ⟨_, rfl⟩, .inr ⟨xs, HXS.out, HJ3.out⟩⟩
theorem given_G (p gb : Nat) (u v : List (Sk.Nd S25)) (O X : Nat → Prop) (c b : Int) (w : World) (M : SkM w O p (u ++ v) c b) (hpos : ∀ n ∈ u ++ v, 0 < n.h) (hlen : ∀ n ∈ u ++ v, n.d.f1.length ≤ 4398046511103)
    (hb : w.heap[gb]? = some (.cells #[.pointer (some ⟨Sk.lst p 0 u, 0, none⟩)] 66 (0, 0))) (hXb : ¬ X gb) (hXO : ∀ k, O k → k < w.heap.size ∧ ¬ X k) (hXl : ∀ k, X k → k < w.heap.size + 2) :
    SeqG Try.prog 56 #[.pointer (some ⟨gb, 0, none⟩)] (fun x : S25 × Value => #[.agg #[.bool x.1.f0, x.2]]) (GoodD w.heap.size (v.map (·.d))) X (fun xs => xs.map (·.1) = v.map (·.d)) (fun pre => pre.map (·.1) <+: v.map (·.d)) w :=
  given_GX p gb u v O X c b w M hpos hlen hb hXb hXO (fun k h => .inl (hXl k h))
end Go.Proofs.Ytnfliommpdjlkaa.Pr
end
