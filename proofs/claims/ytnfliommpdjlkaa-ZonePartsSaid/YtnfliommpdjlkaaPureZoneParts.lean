/- Less, Least, Eq, IsNull and Isnt part the values as the statement says: the walk of ZoneParts, at every two values. -/
import Derived.Test.YtnfliommpdjlkaaPrf19
import Derived.Test.YtnfliommpdjlkaaPrf20
import Derived.Test.YtnfliommpdjlkaaRdk
import Derived.Shelf.AbstractIn
import Derived.BigRegion
import Derived.RegionTactic
import Derived.ChangeAlike
import Derived.BigQuiet
namespace Go.Proofs.Ytnfliommpdjlkaa.Pr
open Go.RowKit Go.Proofs.Ytnfliommpdjlkaa.Brid Go.Proofs.YtnfliommpdjlkaaW.PrintWords Go.Proofs.YtnfliommpdjlkaaW.PrintLast Go.Proofs.YtnfliommpdjlkaaW.PrintMore
set_option linter.unusedVariables false
set_option linter.unusedSimpArgs false
set_option maxHeartbeats 4000000
set_option maxRecDepth 100000
/-- A world behind w, whatever it is, in which all that lies in w lies as it was. -/
structure SomeW (w : World) where
  W : World
  h : Below w.heap.size w W
instance someW_inhabited (w : World) : Inhabited (SomeW w) := ⟨⟨w, Below.refl _ w⟩⟩
theorem wp_region_quiet_some {P : Program} {id : Nat} {Q : Exit → Act → World → Prop} {a : Act} {w : World} {l : List Oper} (hm : P.follows .mixedOrders = true) (hB : Region.lexB .any l.toArray = true)
    (h : wpQuiet P l.toArray (fun w' => ∃ p : SomeW w, w' = p.W) (fun a' => ∀ w', (∃ p : SomeW w, w' = p.W) → Q .normal a' w') l a) : (Code.region id l.toArray true).wp P Q a w :=
  wp_region_quiet (C := fun w' => ∃ p : SomeW w, w' = p.W) hm hB ⟨⟨w.drew, (Below.refl _ w).drew⟩, rfl⟩ (by simpa using h)
theorem Calls.below_some {P : Program} {f : FuncId} {args : Array Value} {w : World} {p : SomeW w} {v : Value}
    (h : Calls P f args p.W fun e w' => e = .returned v ∧ Below p.W.heap.size p.W w') : Calls P f args p.W fun e w'' => e = .returned v ∧ ∃ q : SomeW w, w'' = q.W :=
  h.mono fun _ w' ⟨he, hb⟩ => ⟨he, ⟨w', p.h.trans ⟨hb.os, hb.tape, hb.output, hb.size, fun i hi => hb.block i (Nat.lt_of_lt_of_le hi p.h.size)⟩⟩, rfl⟩
theorem mixed_T : Try.prog.follows .mixedOrders = true := by kernel_rfl
theorem cell_some {w : World} {a : Addr} {v : Value} (h : w.cell? a = some v) (p : SomeW w) : p.W.cell? a = some v := (Below.cell p.h (World.block_lt_of_cell? _ _ h)).trans h
def zpB (n0 n1 L S E N I : Bool) : Bool := ((L != S) == (!n0 && !n1)) && (!E || S) && (!L || (!n0 && !n1)) && (N != I) && (N == n0)
theorem zp_walk (n0 : Bool) (i0 : Int) (s0 : ByteArray) (n1 : Bool) (i1 : Int) (s1 : ByteArray) (L S E N I : Bool) (W : World)
    (hL : ∀ W' : World, Calls Try.prog 20 #[.agg #[.int .i64 2, .int .i64 0, .bool n1, .int .i64 i1, .string s1], .agg #[.bool n0, .int .i64 i0, .string s0]] W' fun e w' => e = .returned (.bool L) ∧ Below W'.heap.size W' w')
    (hS : ∀ W' : World, Calls Try.prog 20 #[.agg #[.int .i64 3, .int .i64 0, .bool n1, .int .i64 i1, .string s1], .agg #[.bool n0, .int .i64 i0, .string s0]] W' fun e w' => e = .returned (.bool S) ∧ Below W'.heap.size W' w')
    (hE : ∀ W' : World, Calls Try.prog 20 #[.agg #[.int .i64 1, .int .i64 0, .bool n1, .int .i64 i1, .string s1], .agg #[.bool n0, .int .i64 i0, .string s0]] W' fun e w' => e = .returned (.bool E) ∧ Below W'.heap.size W' w')
    (hN : ∀ W' : World, Calls Try.prog 20 #[.agg #[.int .i64 4, .int .i64 0, .bool n1, .int .i64 i1, .string s1], .agg #[.bool n0, .int .i64 i0, .string s0]] W' fun e w' => e = .returned (.bool N) ∧ Below W'.heap.size W' w')
    (hI : ∀ W' : World, Calls Try.prog 20 #[.agg #[.int .i64 5, .int .i64 0, .bool n1, .int .i64 i1, .string s1], .agg #[.bool n0, .int .i64 i0, .string s0]] W' fun e w' => e = .returned (.bool I) ∧ Below W'.heap.size W' w')
    (hf : zpB n0 n1 L S E N I = true) :
    Calls Try.prog 8 #[.agg #[.bool n0, .int .i64 i0, .string s0], .agg #[.bool n1, .int .i64 i1, .string s1]] W fun e W' => e = .returned (.bool true) ∧ Below W.heap.size W W' := by
  have B1 := below_alloc (below_alloc (Below.refl W.heap.size W) (.cells #[.bool n0, .int .i64 i0, .string s0] 27)) (.cells #[.bool n1, .int .i64 i1, .string s1] 27)
  have K0 := blk_alloc (heap_alloc_new W (.cells #[.bool n0, .int .i64 i0, .string s0] 27)) (.cells #[.bool n1, .int .i64 i1, .string s1] 27)
  have K1 := heap_alloc_new (W.alloc (.cells #[.bool n0, .int .i64 i0, .string s0] 27)) (.cells #[.bool n1, .int .i64 i1, .string s1] 27)
  rw [show (W.alloc (.cells #[.bool n0, .int .i64 i0, .string s0] 27)).heap.size = W.heap.size + 1 by simp] at K1
  have HB1 := Aside0.mk B1
  have HK0 := Aside0.mk K0
  have HK1 := Aside0.mk K1
  have HL := Aside0.mk hL
  have HS := Aside0.mk hS
  have HE := Aside0.mk hE
  have HN := Aside0.mk hN
  have HI := Aside0.mk hI
  clear B1 K0 K1 hL hS hE hN hI
  go_enter Try.func8, Try.ntmps8
  go_wp2_with fail
  refine (tithebarnlaw11_lives_c.calls true _ rfl).mono ?_
  rintro e w1 ⟨rfl, hb1⟩
  have HB2 := Aside0.mk (below_then HB1.out HB1.out.size hb1)
  have HK2 := Aside0.mk (blk_below HK0.out hb1)
  have HK3 := Aside0.mk (blk_below HK1.out hb1)
  clear hb1 HB1 HK0 HK1
  have V0 : ∀ s : SomeW w1, s.W.cell? ⟨W.heap.size, 0, none⟩ = some (.bool n0) := fun s => cell_some ((blk_cell HK2.out 0).trans rfl) s
  have V1 : ∀ s : SomeW w1, s.W.cell? ⟨W.heap.size, 1, none⟩ = some (.int .i64 i0) := fun s => cell_some ((blk_cell HK2.out 1).trans rfl) s
  have V2 : ∀ s : SomeW w1, s.W.cell? ⟨W.heap.size, 2, none⟩ = some (.string s0) := fun s => cell_some ((blk_cell HK2.out 2).trans rfl) s
  have U0 : ∀ s : SomeW w1, s.W.cell? ⟨W.heap.size + 1, 0, none⟩ = some (.bool n1) := fun s => cell_some ((blk_cell HK3.out 0).trans rfl) s
  have U1 : ∀ s : SomeW w1, s.W.cell? ⟨W.heap.size + 1, 1, none⟩ = some (.int .i64 i1) := fun s => cell_some ((blk_cell HK3.out 1).trans rfl) s
  have U2 : ∀ s : SomeW w1, s.W.cell? ⟨W.heap.size + 1, 2, none⟩ = some (.string s1) := fun s => cell_some ((blk_cell HK3.out 2).trans rfl) s
  have HF := Aside0.mk hf
  clear hf
  go_wp2
  refine wp_region_quiet_some mixed_T (by kernel_rfl) ?_
  repeat (go_big_quiet_step (first | (go_at_call 20; first | (with_reducible refine Calls.below_some (HL.out _)) | (with_reducible refine Calls.below_some (HS.out _)) | (with_reducible refine Calls.below_some (HE.out _)))))
  refine wpQuiet_nil ?_
  intro w3 hw'
  obtain ⟨p_, hp_⟩ := hw'
  have hb3 : Below w1.heap.size w1 w3 := by rw [hp_]; exact p_.h
  clear hp_ p_ V0 V1 V2 U0 U1 U2
  have HB3 := Aside0.mk (below_then HB2.out HB2.out.size hb3)
  have HK4 := Aside0.mk (blk_below HK2.out hb3)
  have HK5 := Aside0.mk (blk_below HK3.out hb3)
  clear hb3 HB2 HK2 HK3
  have V0 : ∀ s : SomeW w3, s.W.cell? ⟨W.heap.size, 0, none⟩ = some (.bool n0) := fun s => cell_some ((blk_cell HK4.out 0).trans rfl) s
  have V1 : ∀ s : SomeW w3, s.W.cell? ⟨W.heap.size, 1, none⟩ = some (.int .i64 i0) := fun s => cell_some ((blk_cell HK4.out 1).trans rfl) s
  have V2 : ∀ s : SomeW w3, s.W.cell? ⟨W.heap.size, 2, none⟩ = some (.string s0) := fun s => cell_some ((blk_cell HK4.out 2).trans rfl) s
  have U0 : ∀ s : SomeW w3, s.W.cell? ⟨W.heap.size + 1, 0, none⟩ = some (.bool n1) := fun s => cell_some ((blk_cell HK5.out 0).trans rfl) s
  have U1 : ∀ s : SomeW w3, s.W.cell? ⟨W.heap.size + 1, 1, none⟩ = some (.int .i64 i1) := fun s => cell_some ((blk_cell HK5.out 1).trans rfl) s
  have U2 : ∀ s : SomeW w3, s.W.cell? ⟨W.heap.size + 1, 2, none⟩ = some (.string s1) := fun s => cell_some ((blk_cell HK5.out 2).trans rfl) s
  go_wp2
  refine wp_region_quiet_some mixed_T (by kernel_rfl) ?_
  repeat (go_big_quiet_step (first | (go_at_call 20; first | (with_reducible refine Calls.below_some (HN.out _)) | (with_reducible refine Calls.below_some (HI.out _)))))
  refine wpQuiet_nil ?_
  intro w4 hw'
  obtain ⟨p_, hp_⟩ := hw'
  have hb4 : Below w3.heap.size w3 w4 := by rw [hp_]; exact p_.h
  clear hp_ p_ V0 V1 V2 U0 U1 U2
  have HB4 := Aside0.mk (below_then HB3.out HB3.out.size hb4)
  have v0 := (blk_cell (blk_below HK4.out hb4) 0).trans rfl
  have u0 := (blk_cell (blk_below HK5.out hb4) 0).trans rfl
  clear hb4 HB3 HK4 HK5 HL HS HE HN HI
  cases n0 <;> cases n1 <;> cases L <;> cases S <;> cases E <;> cases N <;> cases I <;> first
    | exact absurd HF.out (by decide)
    | (go_wp2
       go_ret
       exact ⟨rfl, HB4.out⟩)
theorem ZoneParts_walk (W : World) (x0 : S27) (b0 : B27 x0 maxLen) (x1 : S27) (b1 : B27 x1 maxLen) :
    Calls Try.prog 8 #[.agg #[.bool x0.f0, .int .i64 x0.f1, .string x0.f2], .agg #[.bool x1.f0, .int .i64 x1.f1, .string x1.f2]] W fun e W' => e = .returned (.bool true) ∧ Below W.heap.size W W' := by
  refine zp_walk x0.f0 x0.f1 x0.f2 x1.f0 x1.f1 x1.f2 _ _ _ _ _ W (fun W' => zone_Holds_c.calls 2 0 x1.f0 x1.f1 x1.f2 x0.f0 x0.f1 x0.f2 _ W' rfl) (fun W' => zone_Holds_c.calls 3 0 x1.f0 x1.f1 x1.f2 x0.f0 x0.f1 x0.f2 _ W' rfl) (fun W' => zone_Holds_c.calls 1 0 x1.f0 x1.f1 x1.f2 x0.f0 x0.f1 x0.f2 _ W' rfl)
    (fun W' => zone_Holds_c.calls 4 0 x1.f0 x1.f1 x1.f2 x0.f0 x0.f1 x0.f2 _ W' rfl) (fun W' => zone_Holds_c.calls 5 0 x1.f0 x1.f1 x1.f2 x0.f0 x0.f1 x0.f2 _ W' rfl) ?_
  simp only [holdsV]
  have hE : (Thy.cmpV x0.f0 x0.f1 x0.f2 x1.f0 x1.f1 x1.f2 == 0) = true → Thy.less x0.f0 x0.f1 x0.f2 x1.f0 x1.f1 x1.f2 = false := by
    intro h
    rw [beq_iff_eq] at h
    cases hc : Thy.less x0.f0 x0.f1 x0.f2 x1.f0 x1.f1 x1.f2 with
    | false => rfl
    | true => have := Thy.cmpV_lt.2 hc; omega
  generalize (Thy.cmpV x0.f0 x0.f1 x0.f2 x1.f0 x1.f1 x1.f2 == 0) = E at *
  generalize Thy.less x0.f0 x0.f1 x0.f2 x1.f0 x1.f1 x1.f2 = L at *
  cases x0.f0 <;> cases x1.f0 <;> cases L <;> cases E <;> simp_all [zpB]
end Go.Proofs.Ytnfliommpdjlkaa.Pr
