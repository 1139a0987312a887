/- A cut with a capacity (xs[:i:i]), and an append behind it: the new row is the call's own. -/
import Derived.Test.YthlelhndmnkmjaaPr0
import Derived.ArgAppend
namespace Go.Proofs.YthlelhndmnkmjaaW.PrintWords
open Go.RowKit Go.Proofs.YthlelhndmnkmjaaW.PrintWords Go.Proofs.YthlelhndmnkmjaaW.PrintLast Go.Proofs.YthlelhndmnkmjaaW.PrintMore
set_option linter.unusedVariables false
theorem cut_full {P : Program} (t e : TypeId) (kh : IntKind) {i : TypeInfo} (ht : P.underlying t = some (.slice e)) (hi : P.info? e = some i) (A : Option Addr) (n c : Nat) (j : Int) (h0 : 0 ≤ j) (hm : j ≤ n) (hc : n ≤ c) :
  ∀ W : World, (Instr.slice t (.slice A n c) none (some (.int kh j)) (some (.int kh j))).run P W = .ok (.slice A j.toNat j.toNat) W := by
 intro W
 have hel : P.elem t = e := by simp [Program.elem, ht]
 have hu : P.underlying t = some (.slice (P.elem t)) := by rw [hel]; exact ht
 have ha : (A.map fun x => x.add 0) = A := by cases A <;> simp [Addr.add]
 rw [run_slice_hm W t A n c hu kh kh j j h0 (by omega) (by omega), hel]
 simp [sizeOf, typeInfo, hi, sliced, Result.andThen, ha]
theorem Kd.R_append_full_step {P : Program} {ops : Array Oper} {o : Oper} {a : Act} {Q : Exit → Act → World → Prop} {Kc : Act → World → Prop} {α : Type} (d : Kd α) {w0 W : World} (base : Nat) (hw : Region.wanted o (yielded ops a.tmps) = true) (s x : Operand) (t e : TypeId) (z : Value) (bytes : Nat)
  (ho : o.op = .call { callee := .builtin .append, args := #[s, x], argTypes := #[t, t] })
  (ht : P.underlying t = some (.slice e)) (hinfo : (P.info? e).map (fun i => (i.zero, i.size, i.bytes)) = some (some z, d.sz, bytes)) (hz : z.cells.size = d.sz) (hs0 : 0 < d.sz) (hb0 : 0 < bytes)
  (A : Option Addr) (xs : List α) (p : α) (cs : List Value) (ok okp : Nat → Prop) (hs : a.eval s = .slice A xs.length xs.length) (hx : a.eval x = .slice (some ⟨W.heap.size, 0, none⟩) 1 1) (hp : d.M W base okp p cs) (hokp : ∀ k, okp k → ok k ∧ some k ≠ (Value.slice none 0 0).ownBlock) (hfresh : ∀ k, W.heap.size ≤ k → ok k)
  (hKM : ∀ (w : World) x c, d.K w x c → d.M w base (fun _ => False) x c)
  (HO : d.C W A xs.length xs) (HB : Below base w0 W) (hbase : base ≤ W.heap.size) (hl : (xs.length + 1) * bytes ≤ 140737488355328)
  (h : ∀ v1 w1, d.R e w1 base ok v1 (xs ++ [p]) → Below base w0 w1 → W.grownBy w1 (Value.slice none 0 0).ownBlock → (v1.ownBlock = (Value.slice none 0 0).ownBlock ∨ ∃ b, v1.ownBlock = some b ∧ W.heap.size ≤ b) → Kc (a.put o.dst v1) w1) :
  if Region.wanted o (yielded ops a.tmps) = true then Oper.wp P o a (W.alloc (.cells cs.toArray e)) Kc Q else Kc (a.put o.dst undef) (W.alloc (.cells cs.toArray e)) := by
 obtain ⟨i0, hi, hzz⟩ := Option.map_eq_some_iff.1 hinfo
 simp only [Prod.mk.injEq] at hzz
 obtain ⟨hz0, hz1, hz2⟩ := hzz
 have hlen : xs.length + 1 ≤ 140737488355328 := Nat.le_trans (Nat.le_mul_of_pos_right _ hb0) hl
 rw [if_pos hw]
 have hcl : cs.length = d.sz := d.K_len (d.K_of_M hp)
 have hone : ∀ u ∈ cs, u.oneCell' = true := d.K_one (d.K_of_M hp)
 have hnews : ∀ j u, cs[j]? = some u → (W.alloc (.cells cs.toArray e)).cell? ((⟨W.heap.size, 0, none⟩ : Addr).add j) = some u := by
  simpa using World.news_of_block (cs := cs.toArray) (t := e) (fr := (0, 0)) (heap_alloc_new W (.cells cs.toArray e))
 obtain ⟨inner, hil, hir, hic⟩ : ∃ inner : List Value, inner.length = xs.length * d.sz ∧ Reps (d.K W) d.sz xs inner ∧ ∀ ad, A = some ad → ∀ j u, inner[j]? = some u → W.cell? (ad.add j) = some u := by
  cases A with
  | some ad =>
   obtain ⟨inner, h1, h2⟩ := ReadsRow.inner_ (show ReadsRow (d.K W) d.sz W (some ad) xs.length xs from HO)
   exact ⟨inner, h1.1, h1, fun ad' e' => by injection e' with e'; subst e'; exact h2⟩
  | none =>
   have h0 : xs = [] := by
    rcases Nat.eq_zero_or_pos xs.length with h0 | h0
    ·exact List.eq_nil_of_length_eq_zero h0
    ·obtain ⟨ad, h, _⟩ := HO.2.2 h0
     cases h
   subst h0
   exact ⟨[], by simp, Reps.none _ _, fun ad' e' => by cases e'⟩
 have hcA : ∀ ad, A = some ad → ∀ j u, inner[j]? = some u → (W.alloc (.cells cs.toArray e)).cell? (ad.add j) = some u := fun ad e' j u hj => pw_cell_below (below_alloc (Below.refl _ _) _) (hic ad e' j u hj)
 have key : ∃ v' w', (Builtin.append_ #[t, t] o.type #[.slice A xs.length xs.length, .slice (some ⟨W.heap.size, 0, none⟩) 1 1]).run P (W.alloc (.cells cs.toArray e)) = .ok v' w' ∧ w'.ownsRow (W.alloc (.cells cs.toArray e)).heap.size e d.sz v' (xs.length + 1) (inner ++ cs) ∧ (W.alloc (.cells cs.toArray e)).grownBy w' none := by
  cases A with
  | some ad =>
   exact run_append_arg_grows (P := P) _ t o.type e i0 z d.sz bytes ht hi hz0 hz1 hz2 hz hs0 ad xs.length xs.length inner hil (hcA ad rfl) ⟨W.heap.size, 0, none⟩ 1 1 cs (by rw [hcl]; simp) hnews (by omega) (by simp only [maxLen]; omega) hl
  | none =>
   have h0 : xs = [] := by
    rcases Nat.eq_zero_or_pos xs.length with h0 | h0
    ·exact List.eq_nil_of_length_eq_zero h0
    ·obtain ⟨ad, h, _⟩ := HO.2.2 h0
     cases h
   subst h0
   obtain rfl : inner = [] := List.eq_nil_of_length_eq_zero (by simpa using hil)
   obtain ⟨v', w', hrun, r1, r2, _⟩ := run_append_own (P := P) (W.alloc (.cells cs.toArray e)) (W.alloc (.cells cs.toArray e)).heap.size t o.type e i0 z d.sz bytes ht hi hz0 hz1 hz2 hz hs0 (.slice none 0 0) 0 [] (World.ownsRow_nil _ _ e d.sz) ⟨W.heap.size, 0, none⟩ 1 1 cs (by rw [hcl]; simp) hnews hone (by simp only [maxLen]; omega) hl (Nat.le_refl _)
   exact ⟨v', w', hrun, r1, r2⟩
 obtain ⟨v1, w1, hr, hown, hg⟩ := key
 unfold Oper.wp execOp
 simp only [ho, resolve, invoke, builtin, Sem.run_bind, Sem.run_pure, Result.andThen_ok, List.map_toArray, List.map_cons, List.map_nil, hs, hx, hr]
 have hob : ∀ k, v1.ownBlock = some k → W.heap.size < k := fun k hk => by have := own_base hown k hk; simp at this; omega
 have hblk : ∃ b, v1.ownBlock = some b ∧ W.heap.size ≤ b := by
  rcases hv : v1.ownBlock with _ | b
  ·exfalso
   obtain ⟨_, h | ⟨k, cells, c, rfl, _⟩⟩ := hown
   ·have := h.2; omega
   ·simp [Value.ownBlock] at hv
  ·exact ⟨b, rfl, by have := hob b hv; omega⟩
 have hgW : W.grownBy w1 none := World.grownBy.trans (World.grownBy_alloc W _ _) hg
 refine h v1 w1 ?_ ((HB.alloc hbase _).grown hg (by simp; omega) (fun k hk => by cases hk)) (by simpa [Value.ownBlock] using hgW) (.inr hblk)
 have hn : (Value.slice none 0 0).ownBlock = none := rfl
 have hrM : Reps (d.M W base (fun k => ok k ∧ some k ≠ (Value.slice none 0 0).ownBlock)) d.sz xs inner := hir.imp_ (fun q c hq => d.M_mono (fun k hk => hk.elim) (hKM W q c hq))
 refine R_appended (v := .slice none 0 0) (fun k hk => by cases hk) hrM hp hokp hfresh ?_ (by simpa [Value.ownBlock] using hgW) (.inr hblk)
 exact own_weaken hown (by simp; omega)
end Go.Proofs.YthlelhndmnkmjaaW.PrintWords
