/- what a range over a function leaves (numbers of seat b) -/
import Derived.Test.YtnfliommpdjlkaaSkU
namespace Go.Proofs.Ytnfliommpdjlkaa.Pr
open Go.RowKit Go.Proofs.Ytnfliommpdjlkaa.Brid Go.Proofs.YtnfliommpdjlkaaW.PrintWords Go.Proofs.YtnfliommpdjlkaaW.PrintLast Go.Proofs.YtnfliommpdjlkaaW.PrintMore
set_option linter.unusedVariables false
set_option linter.unusedSimpArgs false
set_option maxHeartbeats 4000000
set_option maxRecDepth 100000
attribute [local go_sem] Oper.semAt_some
theorem ownFrom_blk {β : Type} {B k : Nat} {cs : Array Value} {t : Nat} : OwnFrom B (fun (_ : β) V => V.heap[k]? = some (.cells cs t (0, 0))) := by
  intro s A A' row h hg hr
  refine (hg.block k (Array.getElem?_eq_some_iff.1 h).1 (fun e => ?_)).trans h
  obtain ⟨_, o, ho, hc⟩ := hr k e.symm
  rw [h] at ho
  cases ho
  cases hc
theorem below_put {W A : World} (h : Below W.heap.size W A) {l : Nat} (hl : W.heap.size ≤ l) (o : Obj) : Below W.heap.size W (A.putObj l o) :=
  ⟨h.os, h.tape, h.output, by simpa using h.size, fun k hk => (World.putObj_heap_other (fun e => by omega)).trans (h.block k hk)⟩
end Go.Proofs.Ytnfliommpdjlkaa.Pr
