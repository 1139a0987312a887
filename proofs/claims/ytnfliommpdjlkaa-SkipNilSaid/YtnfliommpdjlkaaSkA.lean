/- skip: levels, path (numbers of seat b) -/
import Derived.Test.YtnfliommpdjlkaaRdk
import Derived.Test.YtnfliommpdjlkaaSk
import Derived.Test.YtnfliommpdjlkaaPrf45
import Derived.Test.YtnfliommpdjlkaaPrf39
import Derived.Test.YtnfliommpdjlkaaPrf43
import Derived.Shelf.AbstractIn
import Derived.BigRegion
import Derived.RegionTactic
import Derived.ChangeAlike
import Derived.BigQuiet
import Derived.Shelf.AbstractIn
namespace Go.Proofs.Ytnfliommpdjlkaa.Pr
open Go.RowKit Go.Proofs.Ytnfliommpdjlkaa.Brid Go.Proofs.YtnfliommpdjlkaaW.PrintWords Go.Proofs.YtnfliommpdjlkaaW.PrintLast Go.Proofs.YtnfliommpdjlkaaW.PrintMore
set_option linter.unusedVariables false
set_option linter.unusedSimpArgs false
set_option maxHeartbeats 4000000
set_option maxRecDepth 100000
/-- the same world but for the count of what was drawn -/
def Sim (w' w : World) : Prop := w'.heap = w.heap ∧ w'.os = w.os ∧ w'.tape = w.tape ∧ w'.output = w.output
theorem set_set (w : World) (p j : Nat) (x y : Value) : ((w.setCell ⟨p, j, none⟩ x).setCell ⟨p, j, none⟩ y).heap = (w.setCell ⟨p, j, none⟩ y).heap := by
  apply Array.ext_getElem?
  intro i
  simp only [World.setCell, Array.getElem?_modify]
  by_cases h : p = i
  · subst h
    simp only [if_pos]
    cases w.heap[p]? with
    | none => rfl
    | some o => cases o <;> simp
  · simp only [if_neg h]
theorem Sim.set2 {a b w : World} {p j : Nat} {x : Value} (h : Sim a (w.setCell ⟨p, j, none⟩ x)) (y : Value) (hb : Sim b (a.setCell ⟨p, j, none⟩ y)) : Sim b (w.setCell ⟨p, j, none⟩ y) := by
  obtain ⟨h1, h2, h3, h4⟩ := h
  obtain ⟨k1, k2, k3, k4⟩ := hb
  refine ⟨?_, k2.trans h2, k3.trans h3, k4.trans h4⟩
  have e : (a.setCell ⟨p, j, none⟩ y).heap = ((w.setCell ⟨p, j, none⟩ x).setCell ⟨p, j, none⟩ y).heap := by simp only [World.setCell] at *; rw [h1]
  rw [k1, e, set_set]
theorem levels_T (p : Nat) (s : Int) (w : World) (hc : w.cell? ⟨p, 10, none⟩ = some (.int .u64 s)) (hf : w.frozen? ⟨p, 10, none⟩ = false) : Calls Try.prog 42 #[.pointer (some ⟨p, 0, none⟩)] w fun e w' => ∃ n : Int, e = .returned (.int .i64 n) ∧ 1 ≤ n ∧ n ≤ 8 ∧ ∃ s' : Int, Sim w' (w.setCell ⟨p, 10, none⟩ (.int .u64 s')) := by
  go_enter Try.func42, Try.ntmps42
  go_wp2
  go_region
  generalize bits BinOp.xor IntKind.u64 s (IntKind.u64.wrap (s * 8192)) = s1
  have hc1 : ((w.setCell ⟨p, 10, none⟩ (.int .u64 s1))).drew.cell? ⟨p, 10, none⟩ = some (.int .u64 s1) := World.cell?_setCell_same' _ _ _ (by rw [hc]; rfl)
  have hf1 : ((w.setCell ⟨p, 10, none⟩ (.int .u64 s1))).drew.frozen? ⟨p, 10, none⟩ = false := (World.frozen?_setCell _ _ _ _).trans hf
  have ha1 : Aside0 (Sim ((w.setCell ⟨p, 10, none⟩ (.int .u64 s1))).drew (w.setCell ⟨p, 10, none⟩ (.int .u64 s1))) := ⟨⟨rfl, rfl, rfl, rfl⟩⟩
  generalize ((w.setCell ⟨p, 10, none⟩ (.int .u64 s1))).drew = w1 at *
  clear hc hf
  go_wp2
  go_region
  generalize bits BinOp.xor IntKind.u64 s1 (s1 / 128) = s2
  have hc2 : ((w1.setCell ⟨p, 10, none⟩ (.int .u64 s2))).drew.cell? ⟨p, 10, none⟩ = some (.int .u64 s2) := World.cell?_setCell_same' _ _ _ (by rw [hc1]; rfl)
  have hf2 : ((w1.setCell ⟨p, 10, none⟩ (.int .u64 s2))).drew.frozen? ⟨p, 10, none⟩ = false := (World.frozen?_setCell _ _ _ _).trans hf1
  have ha2 : Aside0 (Sim ((w1.setCell ⟨p, 10, none⟩ (.int .u64 s2))).drew (w.setCell ⟨p, 10, none⟩ (.int .u64 s2))) := ⟨Sim.set2 ha1.out _ ⟨rfl, rfl, rfl, rfl⟩⟩
  generalize ((w1.setCell ⟨p, 10, none⟩ (.int .u64 s2))).drew = w2 at *
  clear hc1 hf1 ha1
  go_wp2
  go_region
  generalize bits BinOp.xor IntKind.u64 s2 _ = s3
  have hc3 : ((w2.setCell ⟨p, 10, none⟩ (.int .u64 s3))).drew.cell? ⟨p, 10, none⟩ = some (.int .u64 s3) := World.cell?_setCell_same' _ _ _ (by rw [hc2]; rfl)
  have ha3 : Aside0 (Sim ((w2.setCell ⟨p, 10, none⟩ (.int .u64 s3))).drew (w.setCell ⟨p, 10, none⟩ (.int .u64 s3))) := ⟨Sim.set2 ha2.out _ ⟨rfl, rfl, rfl, rfl⟩⟩
  generalize ((w2.setCell ⟨p, 10, none⟩ (.int .u64 s3))).drew = w3 at *
  clear hc2 hf2 ha2
  go_wp2
  go_loopg [3, 4] 8 (fun kx a b wr => ∃ n x : Int, a = .int .i64 n ∧ b = .int .u64 x ∧ 1 ≤ n ∧ n ≤ 8 ∧ 8 - n.toNat ≤ kx ∧ wr = w3)
  case atStart => exact ⟨_, _, rfl, rfl, by omega, by omega, by simp, rfl⟩
  case round =>
    obtain ⟨n, x, rfl, rfl, h1, h8, hk, rfl⟩ := hrel
    by_cases hn : n < 8
    · by_cases hx : bits BinOp.and IntKind.u64 x 3 = 0
      · have hw : IntKind.i64.wrap (n + 1) = n + 1 := by rw [IntKind.wrap_i64]; omega
        go_wp2
        go_roundg (8 - (n + 1).toNat)
        case measure => omega
        case rel => exact ⟨n + 1, _, rfl, rfl, by omega, by omega, by omega, rfl⟩
      · go_wp2
        go_ret
        exact ⟨n, rfl, h1, h8, s3, ha3.out⟩
    · go_wp2
      go_ret
      exact ⟨n, rfl, h1, h8, s3, ha3.out⟩

def lessT (a b : S27) : Bool := Thy.less a.f0 a.f1 a.f2 b.f0 b.f1 b.f2
/-- a deed's key -/
def keyT (d : S25) : S27 := rd_T27 d.f1 0
abbrev cellsT (x : S27) : Array Value := #[.bool x.f0, .int .i64 x.f1, .string x.f2]
/-- the nodes' rows are read -/
def RowsOk (w : World) (ns : List (Sk.Nd S25)) : Prop := ∀ n ∈ ns, ∃ A c, n.v = .slice (some A) n.d.f1.length c ∧ n.d.f1.length ≤ c ∧ Kd.C k27 w (some A) n.d.f1.length n.d.f1 ∧ 0 < n.d.f1.length
theorem cmp_T (a b : S27) (w : World) : Calls Try.prog 45 #[.agg (cellsT a), .agg (cellsT b)] w fun e w' => e = .returned (.int .i64 (Thy.cmpV a.f0 a.f1 a.f2 b.f0 b.f1 b.f2)) ∧ Below w.heap.size w w' := by
  have := kinds_Compare_c.calls a.f0 a.f1 a.f2 b.f0 b.f1 b.f2 _ w rfl
  exact this
abbrev nil8 : Array Value := #[.pointer none, .pointer none, .pointer none, .pointer none, .pointer none, .pointer none, .pointer none, .pointer none]
def pathV (p : Nat) (pre : List (Sk.Nd S25)) (L : Nat) : Value := .pointer (some ⟨Sk.lst p L pre, 0, none⟩)
/-- A world behind w, whatever it is, in which all that lies in w lies as it was. -/
structure SomeW (w : World) where
  W : World
  h : Below w.heap.size w W
instance someW_inhabited (w : World) : Inhabited (SomeW w) := ⟨⟨w, Below.refl _ w⟩⟩
theorem wp_region_quiet_some {P : Program} {id : Nat} {Q : Exit → Act → World → Prop} {a : Act} {w : World} {l : List Oper} (hm : P.follows .mixedOrders = true) (hB : Region.lexB .any l.toArray = true)
    (h : wpQuiet P l.toArray (fun w' => ∃ p : SomeW w, w' = p.W) (fun a' => ∀ w', (∃ p : SomeW w, w' = p.W) → Q .normal a' w') l a) : (Code.region id l.toArray true).wp P Q a w :=
  wp_region_quiet (C := fun w' => ∃ p : SomeW w, w' = p.W) hm hB ⟨⟨w.drew, (Below.refl _ w).drew⟩, rfl⟩ (by simpa using h)
theorem Calls.below_some {P : Program} {f : FuncId} {args : Array Value} {w : World} {p : SomeW w} {v : Value}
    (h : Calls P f args p.W fun e w' => e = .returned v ∧ Below p.W.heap.size p.W w') : Calls P f args p.W fun e w'' => e = .returned v ∧ ∃ q : SomeW w, w'' = q.W :=
  h.mono fun _ w' ⟨he, hb⟩ => ⟨he, ⟨w', p.h.trans ⟨hb.os, hb.tape, hb.output, hb.size, fun i hi => hb.block i (Nat.lt_of_lt_of_le hi p.h.size)⟩⟩, rfl⟩
theorem mixed_T : Try.prog.follows .mixedOrders = true := by kernel_rfl
theorem cell_some {w : World} {a : Addr} {v : Value} (h : w.cell? a = some v) (p : SomeW w) : p.W.cell? a = some v := (Below.cell p.h (World.block_lt_of_cell? _ _ h)).trans h
/-- a node's row: where it lies, its key's cells -/
theorem RowsOk.at {w wr : World} {ns : List (Sk.Nd S25)} (H : RowsOk w ns) (B : Below w.heap.size w wr) {n : Sk.Nd S25} (hn : n ∈ ns) : ∃ A c, n.v = .slice (some A) n.d.f1.length c ∧ n.d.f1.length ≤ c ∧ (0 : Int) < (n.d.f1.length : Int) ∧
    wr.cell? A = some (.bool (keyT n.d).f0) ∧ wr.cell? ⟨A.block, A.off + 1, none⟩ = some (.int .i64 (keyT n.d).f1) ∧ wr.cell? ⟨A.block, A.off + 2, none⟩ = some (.string (keyT n.d).f2) := by
  obtain ⟨A, c, hv, hc, hC, hl⟩ := H n hn
  obtain ⟨ad, e, x0, x1, x2⟩ := at_T27 hC (0 : Int) (by omega) (by omega)
  cases e
  refine ⟨A, c, hv, hc, by omega, ?_, ?_, ?_⟩
  · have := (Below.cell B (World.block_lt_of_cell? _ _ x0)).trans x0
    simpa [Addr.add, keyT] using this
  · have := (Below.cell B (World.block_lt_of_cell? _ _ x1)).trans x1
    simpa [Addr.add, keyT] using this
  · have := (Below.cell B (World.block_lt_of_cell? _ _ x2)).trans x2
    simpa [Addr.add, keyT] using this
theorem path_T (p : Nat) (k : S27) (pre post : List (Sk.Nd S25)) (w : World) (H : Sk.Chain (·.f0) 69 71 w p (pre ++ post)) (HR : RowsOk w (pre ++ post))
    (hpre : ∀ n ∈ pre, lessT (keyT n.d) k = true) (hpost : ∀ n ∈ post, lessT (keyT n.d) k = false) :
    Calls Try.prog 41 #[.pointer (some ⟨p, 0, none⟩), .agg (cellsT k)] w fun e w' => e = .returned (.agg #[pathV p pre 0, pathV p pre 1, pathV p pre 2, pathV p pre 3, pathV p pre 4, pathV p pre 5, pathV p pre 6, pathV p pre 7]) ∧ Below w.heap.size w w' := by
  have b1 : Below w.heap.size w (w.alloc (.cells (cellsT k) 27)) := below_alloc (Below.refl _ _) _
  have b2 : Below w.heap.size w ((w.alloc (.cells (cellsT k) 27)).alloc (.cells nil8 67)) := below_alloc b1 _
  have b3 : Below w.heap.size w (((w.alloc (.cells (cellsT k) 27)).alloc (.cells nil8 67)).alloc (.cells nil8 67)) := below_alloc b2 _
  have s1 : (w.alloc (.cells (cellsT k) 27)).heap.size = w.heap.size + 1 := by simp
  have s2 : ((w.alloc (.cells (cellsT k) 27)).alloc (.cells nil8 67)).heap.size = w.heap.size + 2 := by simp
  have K0 : (((w.alloc (.cells (cellsT k) 27)).alloc (.cells nil8 67)).alloc (.cells nil8 67)).heap[w.heap.size]? = some (.cells (cellsT k) 27 (0, 0)) := blk_alloc (blk_alloc (heap_alloc_new w _) _) _
  have K1 : (((w.alloc (.cells (cellsT k) 27)).alloc (.cells nil8 67)).alloc (.cells nil8 67)).heap[w.heap.size + 1]? = some (.cells nil8 67 (0, 0)) := by
    have := heap_alloc_new (w.alloc (.cells (cellsT k) 27)) (.cells nil8 67)
    rw [s1] at this
    exact blk_alloc this _
  have K2 : (((w.alloc (.cells (cellsT k) 27)).alloc (.cells nil8 67)).alloc (.cells nil8 67)).heap[w.heap.size + 2]? = some (.cells nil8 67 (0, 0)) := by
    have := heap_alloc_new ((w.alloc (.cells (cellsT k) 27)).alloc (.cells nil8 67)) (.cells nil8 67)
    rw [s2] at this
    exact this
  have HK0 := Aside0.mk K0
  have HK1 := Aside0.mk K1
  have HK2 := Aside0.mk K2
  have HB3 := Aside0.mk b3
  have HH := Aside0.mk H
  have HHR := Aside0.mk HR
  have HPRE := Aside0.mk hpre
  have HPOST := Aside0.mk hpost
  have hi8 : Sk.lst p 8 pre = p := Sk.lst_skip p pre (fun n hn => by have := H.high n (List.mem_append_left _ hn); omega)
  clear H HR hpre hpost K0 K1 K2 b1 b2 b3 s1 s2
  go_enter Try.func41, Try.ntmps41
  go_wp2
  generalize hW : ((w.alloc (.cells (cellsT k) 27)).alloc (.cells nil8 67)).alloc (.cells nil8 67) = W at *
  go_loopg [6, 7] 8 (fun kx a b wr => ∃ (i1 : Nat) (cs : Array Value), i1 ≤ 8 ∧ b = .int .i64 ((i1 : Int) - 1) ∧ i1 ≤ kx ∧ a = .pointer (some ⟨Sk.lst p i1 pre, 0, none⟩) ∧ Aside0 (Below w.heap.size w wr) ∧ Aside0 (wr.heap[w.heap.size]? = some (.cells (cellsT k) 27 (0, 0))) ∧ Aside0 (wr.heap[w.heap.size + 1]? = some (.cells nil8 67 (0, 0))) ∧ Aside0 (wr.heap[w.heap.size + 2]? = some (.cells cs 67 (0, 0))) ∧ cs.size = 8 ∧ Aside0 (∀ L, i1 ≤ L → L < 8 → cs[L]? = some (pathV p pre L)))
  case atStart => exact ⟨8, nil8, by omega, rfl, by omega, by rw [hi8], HB3, HK0, HK1, HK2, rfl, ⟨fun L h1 h2 => by omega⟩⟩
  case round =>
    obtain ⟨i1, cs, h8, rfl, hkx, rfl, B, K0, K1, K2, hcs, HP⟩ := hrel
    by_cases hi : 1 ≤ i1
    · obtain ⟨i, rfl⟩ : ∃ i, i1 = i + 1 := ⟨i1 - 1, by omega⟩
      have e1 : (((i + 1 : Nat) : Int) - 1) = (i : Int) := by omega
      rw [e1]
      have hz : (0 : Int) ≤ (i : Int) := by omega
      have hz8 : (i : Int) < 8 := by omega
      go_wp2
      go_loopg [6] pre.length (fun kx a ws => ∃ u v, pre = u ++ v ∧ a = .pointer (some ⟨Sk.lst p i u, 0, none⟩) ∧ v.length ≤ kx ∧ Aside0 (Below w.heap.size w ws) ∧ Aside0 (ws.heap[w.heap.size]? = some (.cells (cellsT k) 27 (0, 0))) ∧ Aside0 (ws.heap[w.heap.size + 1]? = some (.cells nil8 67 (0, 0))) ∧ Aside0 (ws.heap[w.heap.size + 2]? = some (.cells cs 67 (0, 0))))
      case atStart =>
        rcases Sk.lst_mem_or (p := p) (L := i + 1) pre with ⟨e, _⟩ | ⟨u1, n, u2, hu, hn, _, e⟩
        · exact ⟨[], pre, rfl, by rw [e]; rfl, Nat.le_refl _, B, K0, K1, K2⟩
        · refine ⟨u1 ++ [n], u2, by rw [hu]; simp, ?_, by rw [hu]; simp; omega, B, K0, K1, K2⟩
          rw [e, Sk.lst_snoc_hit u1 (by omega)]
      case round =>
        clear B K0 K1 K2
        obtain ⟨u, v, huv, rfl, hkx, B, K0, K1, K2⟩ := hrel
        have hlk := HH.out.link (u := u) (v := v ++ post) (by rw [huv]; simp) i (by omega)
        have hlk2 := (Below.cell B.out (World.block_lt_of_cell? _ _ hlk)).trans hlk
        rcases Sk.first_split i v with hv | ⟨v1, n, v2, hv, hn, hv1⟩
        · rw [Sk.nxt_skip v post hv] at hlk2
          rcases Sk.first_split i post with hq | ⟨q1, n, q2, hq, hn, hq1⟩
          · rw [show Sk.nxt i post = none by have := Sk.nxt_skip post [] hq; rw [List.append_nil] at this; rw [this]; rfl] at hlk2
            have L0 : ∀ s : SomeW wr, s.W.cell? ⟨Sk.lst p i u, 2 + i, none⟩ = some (.pointer none) := fun s => cell_some hlk2 s
            clear hlk
            go_wp2_with fail
            refine wp_region_quiet_some mixed_T (by kernel_rfl) ?_
            repeat (go_big_quiet_step (fail))
            refine wpQuiet_nil ?_
            intro w3 hw'
            obtain ⟨p_, hp_⟩ := hw'
            have B4 : Aside0 (Below w.heap.size w w3) := by rw [hp_]; exact ⟨below_then B.out B.out.size p_.h⟩
            have K0' : Aside0 (w3.heap[w.heap.size]? = some (.cells (cellsT k) 27 (0, 0))) := by rw [hp_]; exact ⟨blk_below K0.out p_.h⟩
            have K1' : Aside0 (w3.heap[w.heap.size + 1]? = some (.cells nil8 67 (0, 0))) := by rw [hp_]; exact ⟨blk_below K1.out p_.h⟩
            have K2' : Aside0 (w3.heap[w.heap.size + 2]? = some (.cells cs 67 (0, 0))) := by rw [hp_]; exact ⟨blk_below K2.out p_.h⟩
            have Q1 : w3.cell? ⟨w.heap.size + 2, i, none⟩ = some cs[i]! := by rw [blk_cell K2'.out i, getElem!_pos cs i (by omega)]; exact Array.getElem?_eq_getElem _
            have Q2 : w3.frozen? ⟨w.heap.size + 2, i, none⟩ = false := blk_frozen K2'.out i
            clear hp_ p_ L0 B K0 K1 K2 hlk2
            go_wp2
            go_roundg i
            case measure => omega
            case rel =>
              refine ⟨i, cs.setIfInBounds i (.pointer (some ⟨Sk.lst p i u, 0, none⟩)), by omega, by go_num, by omega, by rw [huv, Sk.lst_app_skip u v hv], ⟨below_set B4.out (by omega)⟩, ⟨(Sk.heap_set_ne _ _ _ _ _ (by omega)).trans K0'.out⟩, ⟨(Sk.heap_set_ne _ _ _ _ _ (by omega)).trans K1'.out⟩, ⟨Sk.heap_set K2'.out _ _⟩, by simpa using hcs, ⟨fun L h1 h2 => ?_⟩⟩
              show (cs.setIfInBounds i _)[L]? = _
              rw [Array.getElem?_setIfInBounds]
              by_cases e : i = L
              · subst e
                rw [if_pos rfl, if_pos (by omega), pathV, huv, Sk.lst_app_skip u v hv]
              · rw [if_neg e]; exact HP.out L (by omega) h2
          · have hnx : Sk.nxt i post = some n.b := by rw [hq, Sk.nxt_skip q1 _ hq1, Sk.nxt_cons_hit hn]
            rw [hnx] at hlk2
            have hmem : n ∈ post := by rw [hq]; simp
            have hless := HPOST.out n hmem
            obtain ⟨A, c, hnv, hlc, hlen, x0, x1, x2⟩ := HHR.out.at B.out (List.mem_append_right pre hmem)
            obtain ⟨a1, a2, ha⟩ := List.append_of_mem (List.mem_append_right pre hmem)
            have hrow := (HH.out.node a1 n a2 ha).c1
            rw [hnv] at hrow
            have hrow2 := (Below.cell B.out (World.block_lt_of_cell? _ _ hrow)).trans hrow
            have hneg : ¬ Thy.cmpV (keyT n.d).f0 (keyT n.d).f1 (keyT n.d).f2 k.f0 k.f1 k.f2 < 0 := fun h => by rw [lessT, Thy.cmpV_lt.1 h] at hless; cases hless
            have hcmp := cmp_T (keyT n.d) k
            have hnegb := decide_eq_false hneg
            have L0 : ∀ s : SomeW wr, s.W.cell? ⟨Sk.lst p i u, 2 + i, none⟩ = some (.pointer (some ⟨n.b, 0, none⟩)) := fun s => cell_some hlk2 s
            have L1 : ∀ s : SomeW wr, s.W.cell? ⟨n.b, 1, none⟩ = some (.slice (some A) n.d.f1.length c) := fun s => cell_some hrow2 s
            have X0 : ∀ s : SomeW wr, s.W.cell? A = some (.bool (keyT n.d).f0) := fun s => cell_some x0 s
            have X1 : ∀ s : SomeW wr, s.W.cell? ⟨A.block, A.off + 1, none⟩ = some (.int .i64 (keyT n.d).f1) := fun s => cell_some x1 s
            have X2 : ∀ s : SomeW wr, s.W.cell? ⟨A.block, A.off + 2, none⟩ = some (.string (keyT n.d).f2) := fun s => cell_some x2 s
            have Y0 : ∀ s : SomeW wr, s.W.cell? ⟨w.heap.size, 0, none⟩ = some (.bool k.f0) := fun s => cell_some ((blk_cell K0.out 0).trans rfl) s
            have Y1 : ∀ s : SomeW wr, s.W.cell? ⟨w.heap.size, 1, none⟩ = some (.int .i64 k.f1) := fun s => cell_some ((blk_cell K0.out 1).trans rfl) s
            have Y2 : ∀ s : SomeW wr, s.W.cell? ⟨w.heap.size, 2, none⟩ = some (.string k.f2) := fun s => cell_some ((blk_cell K0.out 2).trans rfl) s
            clear hlk hrow hrow2 x0 x1 x2 hnv hlc
            generalize n.d.f1.length = ln at L1 hlen
            have hlenN : 0 < ln := by omega
            generalize keyT n.d = y at X0 X1 X2 hcmp hneg hnegb
            generalize Thy.cmpV y.f0 y.f1 y.f2 k.f0 k.f1 k.f2 = cv at hcmp hneg hnegb
            go_wp2_with fail
            refine wp_region_quiet_some mixed_T (by kernel_rfl) ?_
            repeat (go_big_quiet_step (first | (go_at_call 45; refine Calls.below_some (hcmp _))))
            refine wpQuiet_nil ?_
            intro w3 hw'
            obtain ⟨p_, hp_⟩ := hw'
            have B4 : Aside0 (Below w.heap.size w w3) := by rw [hp_]; exact ⟨below_then B.out B.out.size p_.h⟩
            have K0' : Aside0 (w3.heap[w.heap.size]? = some (.cells (cellsT k) 27 (0, 0))) := by rw [hp_]; exact ⟨blk_below K0.out p_.h⟩
            have K1' : Aside0 (w3.heap[w.heap.size + 1]? = some (.cells nil8 67 (0, 0))) := by rw [hp_]; exact ⟨blk_below K1.out p_.h⟩
            have K2' : Aside0 (w3.heap[w.heap.size + 2]? = some (.cells cs 67 (0, 0))) := by rw [hp_]; exact ⟨blk_below K2.out p_.h⟩
            have Q1 : w3.cell? ⟨w.heap.size + 2, i, none⟩ = some cs[i]! := by rw [blk_cell K2'.out i, getElem!_pos cs i (by omega)]; exact Array.getElem?_eq_getElem _
            have Q2 : w3.frozen? ⟨w.heap.size + 2, i, none⟩ = false := blk_frozen K2'.out i
            clear hp_ p_ L0 L1 X0 X1 X2 Y0 Y1 Y2 B K0 K1 K2 hlk2
            go_wp2
            go_roundg i
            case measure => omega
            case rel =>
              refine ⟨i, cs.setIfInBounds i (.pointer (some ⟨Sk.lst p i u, 0, none⟩)), by omega, by go_num, by omega, by rw [huv, Sk.lst_app_skip u v hv], ⟨below_set B4.out (by omega)⟩, ⟨(Sk.heap_set_ne _ _ _ _ _ (by omega)).trans K0'.out⟩, ⟨(Sk.heap_set_ne _ _ _ _ _ (by omega)).trans K1'.out⟩, ⟨Sk.heap_set K2'.out _ _⟩, by simpa using hcs, ⟨fun L h1 h2 => ?_⟩⟩
              show (cs.setIfInBounds i _)[L]? = _
              rw [Array.getElem?_setIfInBounds]
              by_cases e : i = L
              · subst e
                rw [if_pos rfl, if_pos (by omega), pathV, huv, Sk.lst_app_skip u v hv]
              · rw [if_neg e]; exact HP.out L (by omega) h2
        · have hnx : Sk.nxt i (v ++ post) = some n.b := by
            have : v ++ post = v1 ++ (n :: (v2 ++ post)) := by rw [hv]; simp
            rw [this, Sk.nxt_skip v1 _ hv1, Sk.nxt_cons_hit hn]
          rw [hnx] at hlk2
          have hmem : n ∈ pre := by rw [huv, hv]; simp
          have hless := HPRE.out n hmem
          obtain ⟨A, c, hnv, hlc, hlen, x0, x1, x2⟩ := HHR.out.at B.out (List.mem_append_left post hmem)
          obtain ⟨a1, a2, ha⟩ := List.append_of_mem (List.mem_append_left post hmem)
          have hrow := (HH.out.node a1 n a2 ha).c1
          rw [hnv] at hrow
          have hrow2 := (Below.cell B.out (World.block_lt_of_cell? _ _ hrow)).trans hrow
          have hneg : Thy.cmpV (keyT n.d).f0 (keyT n.d).f1 (keyT n.d).f2 k.f0 k.f1 k.f2 < 0 := Thy.cmpV_lt.2 hless
          have hcmp := cmp_T (keyT n.d) k
          have hnegb := decide_eq_true hneg
          have L0 : ∀ s : SomeW wr, s.W.cell? ⟨Sk.lst p i u, 2 + i, none⟩ = some (.pointer (some ⟨n.b, 0, none⟩)) := fun s => cell_some hlk2 s
          have L1 : ∀ s : SomeW wr, s.W.cell? ⟨n.b, 1, none⟩ = some (.slice (some A) n.d.f1.length c) := fun s => cell_some hrow2 s
          have X0 : ∀ s : SomeW wr, s.W.cell? A = some (.bool (keyT n.d).f0) := fun s => cell_some x0 s
          have X1 : ∀ s : SomeW wr, s.W.cell? ⟨A.block, A.off + 1, none⟩ = some (.int .i64 (keyT n.d).f1) := fun s => cell_some x1 s
          have X2 : ∀ s : SomeW wr, s.W.cell? ⟨A.block, A.off + 2, none⟩ = some (.string (keyT n.d).f2) := fun s => cell_some x2 s
          have Y0 : ∀ s : SomeW wr, s.W.cell? ⟨w.heap.size, 0, none⟩ = some (.bool k.f0) := fun s => cell_some ((blk_cell K0.out 0).trans rfl) s
          have Y1 : ∀ s : SomeW wr, s.W.cell? ⟨w.heap.size, 1, none⟩ = some (.int .i64 k.f1) := fun s => cell_some ((blk_cell K0.out 1).trans rfl) s
          have Y2 : ∀ s : SomeW wr, s.W.cell? ⟨w.heap.size, 2, none⟩ = some (.string k.f2) := fun s => cell_some ((blk_cell K0.out 2).trans rfl) s
          clear hlk hrow hrow2 x0 x1 x2 hnv hlc
          generalize n.d.f1.length = ln at L1 hlen
          have hlenN : 0 < ln := by omega
          generalize keyT n.d = y at X0 X1 X2 hcmp hneg hnegb
          generalize Thy.cmpV y.f0 y.f1 y.f2 k.f0 k.f1 k.f2 = cv at hcmp hneg hnegb
          go_wp2_with fail
          refine wp_region_quiet_some mixed_T (by kernel_rfl) ?_
          repeat (go_big_quiet_step (first | (go_at_call 45; refine Calls.below_some (hcmp _))))
          refine wpQuiet_nil ?_
          intro w3 hw'
          obtain ⟨p_, hp_⟩ := hw'
          have Q0 : w3.cell? ⟨Sk.lst p i u, 2 + i, none⟩ = some (.pointer (some ⟨n.b, 0, none⟩)) := by rw [hp_]; exact L0 p_
          have B4 : Aside0 (Below w.heap.size w w3) := by rw [hp_]; exact ⟨below_then B.out B.out.size p_.h⟩
          have K0' : Aside0 (w3.heap[w.heap.size]? = some (.cells (cellsT k) 27 (0, 0))) := by rw [hp_]; exact ⟨blk_below K0.out p_.h⟩
          have K1' : Aside0 (w3.heap[w.heap.size + 1]? = some (.cells nil8 67 (0, 0))) := by rw [hp_]; exact ⟨blk_below K1.out p_.h⟩
          have K2' : Aside0 (w3.heap[w.heap.size + 2]? = some (.cells cs 67 (0, 0))) := by rw [hp_]; exact ⟨blk_below K2.out p_.h⟩
          clear hp_ p_ L0 L1 X0 X1 X2 Y0 Y1 Y2 B K0 K1 K2 hlk2
          go_wp2
          go_roundg v2.length
          case measure => rw [hv] at hkx; simp at hkx; omega
          case rel =>
            refine ⟨u ++ (v1 ++ [n]), v2, by rw [huv, hv]; simp, ?_, by omega, B4, K0', K1', K2'⟩
            rw [← List.append_assoc, Sk.lst_snoc_hit _ hn]
    · have : i1 = 0 := by omega
      subst this
      have hcv : cs = #[pathV p pre 0, pathV p pre 1, pathV p pre 2, pathV p pre 3, pathV p pre 4, pathV p pre 5, pathV p pre 6, pathV p pre 7] := by
        apply Array.ext_getElem?
        intro L
        by_cases hL : L < 8
        · rw [HP.out L (Nat.zero_le _) hL]
          match L, hL with
          | 0, _ => rfl
          | 1, _ => rfl
          | 2, _ => rfl
          | 3, _ => rfl
          | 4, _ => rfl
          | 5, _ => rfl
          | 6, _ => rfl
          | 7, _ => rfl
        · rw [Array.getElem?_eq_none (by omega), Array.getElem?_eq_none (by simp; omega)]
      subst hcv
      clear HP hcs
      have HE0 : ∀ L, pathV p pre L = .pointer (some ⟨Sk.lst p L pre, 0, none⟩) := fun _ => rfl
      simp only [HE0] at K2
      obtain ⟨bb, hbb⟩ : ∃ f : Nat → Nat, f = fun L => Sk.lst p L pre := ⟨_, rfl⟩
      have hb0 : Sk.lst p 0 pre = bb 0 := by rw [hbb]
      have hb1 : Sk.lst p 1 pre = bb 1 := by rw [hbb]
      have hb2 : Sk.lst p 2 pre = bb 2 := by rw [hbb]
      have hb3 : Sk.lst p 3 pre = bb 3 := by rw [hbb]
      have hb4 : Sk.lst p 4 pre = bb 4 := by rw [hbb]
      have hb5 : Sk.lst p 5 pre = bb 5 := by rw [hbb]
      have hb6 : Sk.lst p 6 pre = bb 6 := by rw [hbb]
      have hb7 : Sk.lst p 7 pre = bb 7 := by rw [hbb]
      rw [hb0, hb1, hb2, hb3, hb4, hb5, hb6, hb7] at K2
      have q0 := (blk_cell K2.out 0).trans rfl
      have q1 := (blk_cell K2.out 1).trans rfl
      have q2 := (blk_cell K2.out 2).trans rfl
      have q3 := (blk_cell K2.out 3).trans rfl
      have q4 := (blk_cell K2.out 4).trans rfl
      have q5 := (blk_cell K2.out 5).trans rfl
      have q6 := (blk_cell K2.out 6).trans rfl
      have q7 := (blk_cell K2.out 7).trans rfl
      have r0 := (blk_cell K1.out 0).trans rfl
      have r1 := (blk_cell K1.out 1).trans rfl
      have r2 := (blk_cell K1.out 2).trans rfl
      have r3 := (blk_cell K1.out 3).trans rfl
      have r4 := (blk_cell K1.out 4).trans rfl
      have r5 := (blk_cell K1.out 5).trans rfl
      have r6 := (blk_cell K1.out 6).trans rfl
      have r7 := (blk_cell K1.out 7).trans rfl
      have f0 := blk_frozen K1.out 0
      have f1 := blk_frozen K1.out 1
      have f2 := blk_frozen K1.out 2
      have f3 := blk_frozen K1.out 3
      have f4 := blk_frozen K1.out 4
      have f5 := blk_frozen K1.out 5
      have f6 := blk_frozen K1.out 6
      have f7 := blk_frozen K1.out 7
      go_wp2
      have HE : ((((((((wr.setCell ⟨w.heap.size + 1, 0, none⟩ (.pointer (some ⟨bb 0, 0, none⟩))).setCell ⟨w.heap.size + 1, 1, none⟩ (.pointer (some ⟨bb 1, 0, none⟩))).setCell ⟨w.heap.size + 1, 2, none⟩ (.pointer (some ⟨bb 2, 0, none⟩))).setCell ⟨w.heap.size + 1, 3, none⟩ (.pointer (some ⟨bb 3, 0, none⟩))).setCell ⟨w.heap.size + 1, 4, none⟩ (.pointer (some ⟨bb 4, 0, none⟩))).setCell ⟨w.heap.size + 1, 5, none⟩ (.pointer (some ⟨bb 5, 0, none⟩))).setCell ⟨w.heap.size + 1, 6, none⟩ (.pointer (some ⟨bb 6, 0, none⟩))).setCell ⟨w.heap.size + 1, 7, none⟩ (.pointer (some ⟨bb 7, 0, none⟩))).heap[w.heap.size + 1]? = some (.cells #[.pointer (some ⟨bb 0, 0, none⟩), .pointer (some ⟨bb 1, 0, none⟩), .pointer (some ⟨bb 2, 0, none⟩), .pointer (some ⟨bb 3, 0, none⟩), .pointer (some ⟨bb 4, 0, none⟩), .pointer (some ⟨bb 5, 0, none⟩), .pointer (some ⟨bb 6, 0, none⟩), .pointer (some ⟨bb 7, 0, none⟩)] 67 (0, 0)) :=
        blk_set (blk_set (blk_set (blk_set (blk_set (blk_set (blk_set (blk_set K1.out 0 _) 1 _) 2 _) 3 _) 4 _) 5 _) 6 _) 7 _
      refine bodyPost_ret (results_cell_row rfl _ _ (w.heap.size + 1) 67 _ (0, 0) _ rfl HE Try.underlying67 rfl (by kernel_rfl)) rfl ⟨?_, ?_⟩
      · simp only [pathV, hb0, hb1, hb2, hb3, hb4, hb5, hb6, hb7]
      · exact below_set (below_set (below_set (below_set (below_set (below_set (below_set (below_set B.out (Nat.le_succ _)) (Nat.le_succ _)) (Nat.le_succ _)) (Nat.le_succ _)) (Nat.le_succ _)) (Nat.le_succ _)) (Nat.le_succ _)) (Nat.le_succ _)
end Go.Proofs.Ytnfliommpdjlkaa.Pr
