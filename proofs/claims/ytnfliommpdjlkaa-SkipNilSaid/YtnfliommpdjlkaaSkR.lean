/- a range over a function whose rounds are told something -/
import Derived.Test.YtnfliommpdjlkaaSkO
import Derived.RangeFuncNested
import Derived.RangeFuncBound
import Derived.RangeFuncCalls
import Derived.RangeFuncLeaves
import Derived.OwnWalkIn
import Derived.TacticsInMore
import Derived.LoopNIn
import Derived.LoopIn
namespace Go.Proofs.Ytnfliommpdjlkaa.Pr
open Go.RowKit Go.Proofs.Ytnfliommpdjlkaa.Brid Go.Proofs.YtnfliommpdjlkaaW.PrintWords Go.Proofs.YtnfliommpdjlkaaW.PrintLast Go.Proofs.YtnfliommpdjlkaaW.PrintMore
set_option linter.unusedVariables false
set_option linter.unusedSimpArgs false
set_option maxHeartbeats 4000000
set_option maxRecDepth 100000
attribute [local go_sem] Oper.semAt_some
/-! A range over a function, at the wide fence, whose rounds are told something of what they are handed. -/
/-- the contract of what is ranged over: each round is made in a world that is Good for what it is handed; what a round that goes on may turn: X -/
def SeqG {α : Type} (P : Program) (g : Nat) (lb : Array Value) (encs : α → Array Value) (Good : List α → α → World → Prop) (X : Nat → Prop) (S Sp : List α → Prop) (w : World) : Prop :=
  ∀ (l : Nat) (J Jx : List α → World → Prop) (W : World), Below w.heap.size w W → w.heap.size + 2 ≤ W.heap.size → OwnFrom W.heap.size J → OwnFrom W.heap.size Jx →
    (∀ pre x V, J pre V → Good pre x V → W.heap.size ≤ V.heap.size → YieldAt Fence.wide 0 P l (encs x) V fun e V' =>
      (e = .returned (.bool true) ∧ J (pre ++ [x]) V' ∧ Fr X V V') ∨ (e = .returned (.bool false) ∧ Jx (pre ++ [x]) V' ∧ Fr X V V')) →
    J [] W →
    Calls P g (#[.func (.yield l) #[] #[]] ++ lb) W fun e V => (∃ v, e = .returned v) ∧ ((∃ xs, S xs ∧ J xs V) ∨ (∃ pre, Sp pre ∧ Jx pre V))
/-- how a round's body may be left -/
def postG {α : Type} (B : Nat) (X : Nat → Prop) (I : List α → World → Prop) (Ix : Code → List α → World → Prop) (xs : List α) (W : World) : Exit → Act → World → Prop
  | .normal, _, V => KeepsFrom B W V ∧ Fr X W V ∧ I xs V
  | .ret, _, V => KeepsFrom B W V ∧ Fr X W V ∧ Ix .ret xs V
  | .exit id, _, V => KeepsFrom B W V ∧ Fr X W V ∧ Ix (.exit id) xs V
  | _, _, _ => False
theorem Fr.putObj {X : Nat → Prop} {a b : World} (h : Fr X a b) {l : Nat} (hl : X l) (o : Obj) : Fr X a (b.putObj l o) :=
  ⟨h.os, h.tape, h.output, by simpa using h.size, fun i hi hn => (World.putObj_heap_other (fun e => hn (by rw [e]; exact hl))).trans (h.block i hi hn)⟩
theorem Fr.refl (X : Nat → Prop) (w : World) : Fr X w w := ⟨rfl, rfl, rfl, Nat.le_refl _, fun _ _ _ => rfl⟩
theorem wp_rangeG {α : Type} {P : Program} {g : Operand} {ps : Array Tmp} {assign body : Code} {Q : Exit → Act → World → Prop} {a : Act} {w : World} {gf : Nat} {lb : Array Value}
    (hg : a.eval g = .func (.func gf) #[] lb) (eg : ∀ args w, (callFunc gf args).run P w = .ok (.enter gf args) w)
    {encs : α → Array Value} {Good : List α → α → World → Prop} {X : Nat → Prop} {S Sp : List α → Prop} (hseq : SeqG P gf lb encs Good X S Sp w) (hX0 : X w.heap.size) (hX1 : X (w.heap.size + 1)) (hps : ∀ x, (encs x).size = ps.size)
    (I : List α → World → Prop) (Ix : Code → List α → World → Prop) (hI : OwnFrom w.heap.size I) (hIx : ∀ c, OwnFrom w.heap.size (Ix c)) (h0 : I [] w)
    (Ax : List α → α → Act → World → Prop) (hAx : ∀ pre x a', OwnFrom w.heap.size (fun (_ : Unit) W => Ax pre x a' W))
    (hassign : ∀ (l : Nat) (pre : List α) (x : α) (W : World) (K : Act → World → Prop), I pre W → Good pre x W → w.heap.size + 2 ≤ W.heap.size → (∀ a' V, KeepsFrom w.heap.size W V → Fr X W V → I pre V → Ax pre x a' V → K a' V) →
      assign.wpIn (Fence.wide.inRound l) 0 P (Exit.then K (fun _ _ _ => False)) { tmps := (ps.zip (encs x)).foldl (fun t (p, v) => t.setIfInBounds p v) a.tmps, defers := [] } W)
    (hbody : ∀ (l : Nat) (pre : List α) (x : α) (a' : Act) (W : World), I pre W → Ax pre x a' W → w.heap.size + 2 ≤ W.heap.size → body.wpIn (Fence.wide.inRound l) 0 P (postG w.heap.size X I Ix (pre ++ [x]) W) a' W)
    (hdone : ∀ (xs : List α) (W : World), S xs → I xs W → W.heap[w.heap.size]? = some (.deferred (some [])) → Q .normal { a with defers := { target := .collected w.heap.size, args := #[] } :: a.defers } W)
    (hstop : ∀ (c : Code) (pre : List α) (W : World), Sp pre → Ix c pre W → W.heap[w.heap.size]? = some (.deferred (some [])) → c.wp P Q { a with defers := { target := .collected w.heap.size, args := #[] } :: a.defers } W) :
    (Code.rangeFunc g ps assign body).wp P Q a w := by
  refine (wpIn_wide (n := 1)).1 (wpIn_rangeFunc fun fn _ => ?_)
  obtain ⟨R, hR⟩ : ∃ R : LoopState → Option Code → Loop, R = fun st pe => { state := st, pending := pe, fn, tmps := a.tmps, params := ps, assign, body, defers := w.heap.size } := ⟨_, rfl⟩
  have eD : (w.alloc (.deferred (some []))).heap.size = w.heap.size + 1 := by simp
  have hL0 : ((w.alloc (.deferred (some []))).alloc (.loop (R .ready none))).heap[w.heap.size + 1]? = some (.loop (R .ready none)) := by
    have := World.alloc_heap_new (w.alloc (.deferred (some []))) (.loop (R .ready none))
    rw [eD] at this; exact this
  have hD0 : ((w.alloc (.deferred (some []))).alloc (.loop (R .ready none))).heap[w.heap.size]? = some (.deferred (some [])) :=
    (Below.heap_alloc _ _ _ (by simp)).trans (World.alloc_heap_new w _)
  have hB0 : Below w.heap.size w ((w.alloc (.deferred (some []))).alloc (.loop (R .ready none))) := below_alloc (below_alloc (Below.refl _ _) _) _
  have hI0 : I [] ((w.alloc (.deferred (some []))).alloc (.loop (R .ready none))) := hI.alloc _ (hI.alloc _ h0)
  have hZ0 : w.heap.size + 2 ≤ ((w.alloc (.deferred (some []))).alloc (.loop (R .ready none))).heap.size := by simp
  refine ⟨w.heap.size + 1, [{ target := .collected w.heap.size, args := #[] }], ((w.alloc (.deferred (some []))).alloc (.loop (R .ready none))), { target := .fn (.func gf) lb, args := #[.func (.yield (w.heap.size + 1)) #[] #[]] }, ((w.alloc (.deferred (some []))).alloc (.loop (R .ready none))), gf, #[.func (.yield (w.heap.size + 1)) #[] #[]] ++ lb, ((w.alloc (.deferred (some []))).alloc (.loop (R .ready none))), ?_, ?_, fun _ _ => trivial, ?_, fun h => absurd h (by simp [Fence.wide]), ?_⟩
  · rw [hR]; exact run_enterLoop_outer _ _ _ _ _
  · simp only [resolve, hg]
    simp [go_sem]
  · simp [invoke, go_sem, eg]
  refine callsIn_wide.2 ?_
  generalize (w.alloc (.deferred (some []))).alloc (.loop (R .ready none)) = W0 at *
  have hfar : ∀ {A B : World} {row : Option Nat} {k : Nat} {o : Obj}, A.grownBy B row → (∀ r, row = some r → W0.heap.size ≤ r ∧ ∃ o : Obj, A.heap[r]? = some o ∧ o.isCells = false) → k < W0.heap.size → A.heap[k]? = some o → B.heap[k]? = some o :=
    fun hgr hr hk ho => (hgr.block _ (Array.getElem?_eq_some_iff.1 ho).1 (fun e => by have := (hr _ e.symm).1; omega)).trans ho
  have hlow : ∀ {row : Option Nat} {A : World}, (∀ r, row = some r → W0.heap.size ≤ r ∧ ∃ o : Obj, A.heap[r]? = some o ∧ o.isCells = false) → (∀ r, row = some r → w.heap.size ≤ r ∧ ∃ o : Obj, A.heap[r]? = some o ∧ o.isCells = false) :=
    fun hr r e => ⟨by have := (hr r e).1; omega, (hr r e).2⟩
  refine (hseq (w.heap.size + 1)
    (fun pre W => I pre W ∧ W.heap[w.heap.size + 1]? = some (.loop (R .ready none)) ∧ W.heap[w.heap.size]? = some (.deferred (some [])))
    (fun pre W => ∃ c, Ix c pre W ∧ W.heap[w.heap.size + 1]? = some (.loop (R .done (some c))) ∧ W.heap[w.heap.size]? = some (.deferred (some [])))
    W0 hB0 hZ0
    (fun s A B row hs hgr hr => ⟨hI s A B row hs.1 hgr (hlow hr), hfar hgr hr (by omega) hs.2.1, hfar hgr hr (by omega) hs.2.2⟩)
    (fun s A B row hs hgr hr => by
      obtain ⟨c, h1, h2, h3⟩ := hs
      exact ⟨c, hIx c s A B row h1 hgr (hlow hr), hfar hgr hr (by omega) h2, hfar hgr hr (by omega) h3⟩)
    ?_ ⟨hI0, hL0, hD0⟩).mono ?_
  · -- a round
    rintro pre x V ⟨hi, hl, hd⟩ hgood hVs
    have hlt : w.heap.size + 1 < V.heap.size := (Array.getElem?_eq_some_iff.1 hl).1
    have hy := run_yield (P := P) (args := encs x) hl (by rw [hR]; exact hps x)
    rw [hR] at hy
    refine ⟨fn, _, assign, body, hy, roundIn_of_wpIn (n := 0) trivial (hassign _ pre x V _ hi hgood (by omega) fun a' V1 hk1 hf1 hi1 hA1 => ?_)⟩
    have hl1 := hk1.same _ _ (Nat.le_succ _) hl rfl
    have hd1 := hk1.same _ _ (Nat.le_refl _) hd rfl
    have hlt1 : w.heap.size + 1 < V1.heap.size := (Array.getElem?_eq_some_iff.1 hl1).1
    refine ⟨_, run_beginRound hl1 (by rw [hR]), ?_⟩
    have hl2 : (V1.putObj (w.heap.size + 1) (.loop { R .ready none with state := .busy })).heap[w.heap.size + 1]? = some (.loop { R .ready none with state := .busy }) := World.putObj_heap_same hlt1
    have hd2 : (V1.putObj (w.heap.size + 1) (.loop { R .ready none with state := .busy })).heap[w.heap.size]? = some (.deferred (some [])) := (World.putObj_heap_other (by omega)).trans hd1
    have hf2 := hf1.putObj hX1 (.loop { R .ready none with state := .busy })
    have hi2 := hI.putObj (.loop { R .ready none with state := .busy }) hi1 (Nat.le_succ _) hl1 rfl
    have hA2 := (hAx pre x a').putObj (s := ()) (.loop { R .ready none with state := .busy }) hA1 (Nat.le_succ _) hl1 rfl
    refine wpIn_mono (hbody _ pre x a' _ hi2 hA2 (by simp; omega)) ?_
    have fin : ∀ (jump : Option Code) (V3 : World), KeepsFrom w.heap.size (V1.putObj (w.heap.size + 1) (.loop { R .ready none with state := .busy })) V3 →
        (Instr.endRound (w.heap.size + 1) jump).run P V3 = .ok (.bool jump.isNone) (V3.putObj (w.heap.size + 1) (.loop (R (if jump.isNone then .ready else .done) jump))) ∧
        V3.heap[w.heap.size + 1]? = some (.loop { R .ready none with state := .busy }) ∧
        (V3.putObj (w.heap.size + 1) (.loop (R (if jump.isNone then .ready else .done) jump))).heap[w.heap.size + 1]? = some (.loop (R (if jump.isNone then .ready else .done) jump)) ∧
        (V3.putObj (w.heap.size + 1) (.loop (R (if jump.isNone then .ready else .done) jump))).heap[w.heap.size]? = some (.deferred (some [])) := fun jump V3 hk3 => by
      have hl3 := hk3.same _ _ (Nat.le_succ _) hl2 rfl
      have h := run_endRound (P := P) jump hl3
      rw [hR] at h ⊢
      exact ⟨h, by rw [hR] at hl3; exact hl3, World.putObj_heap_same (Array.getElem?_eq_some_iff.1 hl3).1, (World.putObj_heap_other (by omega)).trans (hk3.same _ _ (Nat.le_refl _) hd2 rfl)⟩
    rintro e a3 V3 hp
    cases e with
    | normal =>
      obtain ⟨hk3, hf3, hi3⟩ := hp
      obtain ⟨hr, hl3, hl4, hd4⟩ := fin none V3 hk3
      exact ⟨_, _, hr, .inl ⟨rfl, ⟨hI.putObj _ hi3 (Nat.le_succ _) hl3 rfl, hl4, hd4⟩, (hf2.trans hf3).putObj hX1 _⟩⟩
    | ret =>
      obtain ⟨hk3, hf3, hi3⟩ := hp
      obtain ⟨hr, hl3, hl4, hd4⟩ := fin (some .ret) V3 hk3
      exact ⟨_, _, hr, .inr ⟨rfl, ⟨.ret, (hIx _).putObj _ hi3 (Nat.le_succ _) hl3 rfl, hl4, hd4⟩, (hf2.trans hf3).putObj hX1 _⟩⟩
    | exit id =>
      obtain ⟨hk3, hf3, hi3⟩ := hp
      obtain ⟨hr, hl3, hl4, hd4⟩ := fin (some (.exit id)) V3 hk3
      exact ⟨_, _, hr, .inr ⟨rfl, ⟨.exit id, (hIx _).putObj _ hi3 (Nat.le_succ _) hl3 rfl, hl4, hd4⟩, (hf2.trans hf3).putObj hX1 _⟩⟩
    | goto t => exact hp.elim
    | panic ch => exact hp.elim
    | outgrown => exact hp.elim
  · -- behind it
    rintro e V2 ⟨⟨v, rfl⟩, (⟨xs, hS, hi, hl, hd⟩ | ⟨pre, hSp, c, hi, hl, hd⟩)⟩
    · have h := run_endLoop (P := P) hl (by rw [hR]; simp)
      rw [hR] at h
      exact ⟨none, _, h, hdone xs _ hS (hI.putObj _ hi (Nat.le_succ _) hl rfl) ((World.putObj_heap_other (by omega)).trans hd)⟩
    · have h := run_endLoop (P := P) hl (by rw [hR]; simp)
      rw [hR] at h
      exact ⟨some c, _, h, wpIn_wide.2 (hstop c pre _ hSp ((hIx c).putObj _ hi (Nat.le_succ _) hl rfl) ((World.putObj_heap_other (by omega)).trans hd))⟩
end Go.Proofs.Ytnfliommpdjlkaa.Pr
