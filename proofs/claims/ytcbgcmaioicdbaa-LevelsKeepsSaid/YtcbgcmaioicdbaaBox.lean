/- A variable of some cells in a block of its own: load, store; slices.MinFunc at structs. -/
import Derived.Test.YtcbgcmaioicdbaaDfn
namespace Go.Proofs.Ytcbgcmaioicdbaa.Stab
open Go.Shelf Go.RowKit Go.Lib Go.Sort Go.Proofs.YtcbgcmaioicdbaaW.PrintWords
set_option linter.unusedVariables false
set_option linter.unusedSimpArgs false
set_option linter.unusedSectionVars false
section
variable {W : World} {b e k : Nat} {cs : Array Value} {vs : List Value}
theorem box_holds (h : W.heap[b]? = some (.cells cs e (0, 0))) : Holds id W b 0 cs := fun j hj =>
  ⟨by rw [Nat.zero_add, blk_cell h j, getElem!_pos cs j hj, Array.getElem?_eq_getElem hj]; rfl, by rw [Nat.zero_add]; exact blk_frozen h j⟩
theorem box_load (P : Program) (h : W.heap[b]? = some (.cells vs.toArray e (0, 0))) (hk : vs.length = k) : Sem.run P (loadCellsFrom ⟨b, 0, none⟩ 0 k #[]) W = .ok vs.toArray W :=
  run_loadCellsFrom_list P W ⟨b, 0, none⟩ vs k hk (fun j v hj => by
    have : (⟨b, 0, none⟩ : Addr).add j = ⟨b, j, none⟩ := by unfold Addr.add; split <;> simp_all
    rw [this, blk_cell h j]; simpa using hj)
theorem box_store (P : Program) (h : W.heap[b]? = some (.cells cs e (0, 0))) (hs : vs.length ≤ cs.size) (h1 : ∀ v ∈ vs, v.oneCell' = true) : Sem.run P (storeCells ⟨b, 0, none⟩ vs 0) W = .ok () (W.setCells b 0 vs) := by
  have := stores_of_holds P (box_holds h) 0 vs (by omega) h1
  simpa using this
theorem setCells_cells (b e : Nat) : ∀ (vs : List Value) (o : Nat) (W : World) (cs : Array Value), W.heap[b]? = some (.cells cs e (0, 0)) → (W.setCells b o vs).heap[b]? = some (.cells (setMany cs o vs) e (0, 0))
  | [], _, _, _, h => h
  | v :: r, o, W, cs, h => setCells_cells b e r (o + 1) _ _ (heap_setCell_same W b o cs e v h)
theorem setMany_all (cs : Array Value) (vs : List Value) (hs : vs.length = cs.size) : setMany cs 0 vs = vs.toArray := by
  refine ext_get! (by simp [hs]) fun t ht => ?_
  have ht' : t < cs.size := by simpa using ht
  rw [get_setMany _ _ _ t ht', if_pos (by omega), Nat.sub_zero, getElem!_pos vs t (by omega), getElem!_pos vs.toArray t (by simp; omega)]
  simp
theorem box_set (h : W.heap[b]? = some (.cells cs e (0, 0))) (hs : vs.length = cs.size) : (W.setCells b 0 vs).heap[b]? = some (.cells vs.toArray e (0, 0)) := by
  rw [← setMany_all cs vs hs]; exact setCells_cells b e vs 0 W cs h
theorem below_set0 {w : World} (hB : Below w.heap.size w W) (hb : w.heap.size ≤ b) (o : Nat) (vs : List Value) : Below w.heap.size w (W.setCells b o vs) := by
  obtain ⟨r1, r2, r3, r4⟩ := setCells_rest b vs o W
  exact ⟨r1.trans hB.os, r2.trans hB.tape, r3.trans hB.output, by rw [r4]; exact hB.size, fun i hi => (setCells_far b vs o W i (by omega)).trans (hB.block i hi)⟩
theorem holdsK_far {α : Type} [Inhabited α] {enc : α → List Value} {blk off : Nat} {d : Array α} (h : HoldsK enc k W blk off d) (hb : blk ≠ b) (o : Nat) (vs : List Value) : HoldsK enc k (W.setCells b o vs) blk off d := fun j hj =>
  ⟨(World.cell?_of_block (setCells_far b vs o W blk hb)).trans (h j hj).1, (World.frozen?_of_block (setCells_far b vs o W blk hb)).trans (h j hj).2⟩
theorem load_at {α : Type} [Inhabited α] {enc : α → List Value} {blk off : Nat} {d : Array α} (h : HoldsK enc k W blk off d) (R : RowB enc k) (P : Program) (i : Nat) (hi : i < d.size) :
    Sem.run P (loadCellsFrom ⟨blk, off + i * k, none⟩ 0 k #[]) W = .ok (enc d[i]!).toArray W :=
  run_loadCellsFrom_list P _ _ _ k (R.hk _) (HoldsK.cells h R.hk hi)
end
def minOf {α : Type} (cf : α → α → Int) (m : α) (l : List α) : α := l.foldl (fun m y => if cf y m < 0 then y else m) m
variable {α : Type} [Inhabited α] {P : Program} {k : Nat} {zc : Array Value}
structure LayM (P : Program) (k : Nat) (zc : Array Value) : Prop where
  mixed : P.follows .mixedOrders = true
  fM : P.funcs[44]? = some Try.f44
  t0 : P.underlying 0 = some (TypeDesc.tuple #[])
  a0 : ∀ w, (isAgg 0).run P w = .ok false w
  z0 : ∀ w, (Go.sizeOf 0).run P w = .ok 1 w
  v0 : ∀ w, (zeroValue 0).run P w = .ok (Value.tuple #[]) w
  t3 : P.underlying 3 = some (TypeDesc.int IntKind.i64)
  a3 : ∀ w, (isAgg 3).run P w = .ok false w
  z3 : ∀ w, (Go.sizeOf 3).run P w = .ok 1 w
  v3 : ∀ w, (zeroValue 3).run P w = .ok (Value.int IntKind.i64 0) w
  t4 : P.underlying 4 = some (TypeDesc.bool)
  a4 : ∀ w, (isAgg 4).run P w = .ok false w
  z4 : ∀ w, (Go.sizeOf 4).run P w = .ok 1 w
  v4 : ∀ w, (zeroValue 4).run P w = .ok (Value.bool false) w
  t22 : P.underlying 22 = some (TypeDesc.slice 38)
  a22 : ∀ w, (isAgg 22).run P w = .ok false w
  z22 : ∀ w, (Go.sizeOf 22).run P w = .ok 1 w
  v22 : ∀ w, (zeroValue 22).run P w = .ok (Value.slice none 0 0) w
  t52 : P.underlying 52 = some (TypeDesc.func #[38, 38] #[3] false)
  a52 : ∀ w, (isAgg 52).run P w = .ok false w
  z52 : ∀ w, (Go.sizeOf 52).run P w = .ok 1 w
  v52 : ∀ w, (zeroValue 52).run P w = .ok (Value.nilFunc) w
  aE : ∀ w, (isAgg 38).run P w = .ok true w
  zE : ∀ w, (Go.sizeOf 38).run P w = .ok k w
  vE : ∀ w, (zeroValue 38).run P w = .ok (.agg zc) w
  kz : zc.size = k
  sE : ∃ fs, P.underlying 38 = some (.struct fs)
  iE : (P.info? 38).map (·.size) = some k
theorem layM : LayM Try.prog 8 #[.int .i64 0, .int .i64 0, .bool false, .int .i64 0, .string ⟨#[]⟩, .bool false, .int .i64 0, .string ⟨#[]⟩] where
  mixed := by kernel_rfl
  fM := Try.func44
  t0 := Try.underlying0
  a0 := Try.isAgg0
  z0 := Try.sizeOf0
  v0 := Try.zeroValue0
  t3 := Try.underlying3
  a3 := Try.isAgg3
  z3 := Try.sizeOf3
  v3 := Try.zeroValue3
  t4 := Try.underlying4
  a4 := Try.isAgg4
  z4 := Try.sizeOf4
  v4 := Try.zeroValue4
  t22 := Try.underlying22
  a22 := Try.isAgg22
  z22 := Try.sizeOf22
  v22 := Try.zeroValue22
  t52 := Try.underlying52
  a52 := Try.isAgg52
  z52 := Try.sizeOf52
  v52 := Try.zeroValue52
  aE := Try.isAgg38
  zE := Try.sizeOf38
  vE := Try.zeroValue38
  kz := rfl
  sE := ⟨_, Try.underlying38⟩
  iE := by kernel_rfl

set_option maxHeartbeats 8000000 in
set_option maxRecDepth 1000000 in
theorem minFunc (L : LayM P k zc) (enc : α → List Value) (cf : α → α → Int) (g : Nat) (eg : ∀ args w, (callFunc g args).run P w = .ok (.enter g args) w)
    (blk off cap : Nat) (d : Array α) (w : World) (R : RowB enc k) (H : HoldsK enc k w blk off d) (hblk : blk < w.heap.size) (hd : 0 < d.size) (hsz : d.size < 4611686018427387904)
    (hcmp : ∀ (W : World) (x y : α), Below w.heap.size w W → Calls P g (#[.agg (enc x).toArray, .agg (enc y).toArray] ++ #[]) W fun e W' => e = .returned (.int .i64 (cf x y)) ∧ Below W.heap.size W W') :
    Calls P 44 #[.slice (some ⟨blk, off, none⟩) d.size cap, .func (.func g) #[] #[]] w fun e w' => e = .returned (.agg (enc (minOf cf d[0]! (d.toList.drop 1))).toArray) ∧ Below w.heap.size w w' := by
  have mixed := L.mixed; have t0 := L.t0; have a0 := L.a0; have z0 := L.z0; have v0 := L.v0; have t3 := L.t3; have a3 := L.a3; have z3 := L.z3; have v3 := L.v3; have t4 := L.t4; have a4 := L.a4; have z4 := L.z4; have v4 := L.v4; have t22 := L.t22; have a22 := L.a22; have z22 := L.z22; have v22 := L.v22; have t52 := L.t52; have a52 := L.a52; have z52 := L.z52; have v52 := L.v52; have aE := L.aE; have zE := L.zE; have vE := L.vE; have kz := L.kz; have u0 := run_underlying L.t0; have u3 := run_underlying L.t3; have u4 := run_underlying L.t4; have u22 := run_underlying L.t22; have u52 := run_underlying L.t52
  obtain ⟨fs, sE⟩ := L.sE
  have HC : Aside _ := hcmp
  have HH : Aside _ := H
  have hd1 : ¬ (d.size : Int) < 1 := by omega
  have hd0 : (0 : Int) < (d.size : Int) := by omega
  have n0 : (enc d[0]!).length = k := R.hk _
  have B1 : Below w.heap.size w (w.alloc (.cells zc 38)) := below_alloc (Below.refl _ _) _
  have l0 : Sem.run P (loadCellsFrom ⟨blk, off, none⟩ 0 k #[]) (w.alloc (.cells zc 38)) = .ok (enc d[0]!).toArray (w.alloc (.cells zc 38)) := by
    have := load_at (holdsK_below H hblk B1) R P 0 hd
    simpa using this
  have hz : ((w.alloc (.cells zc 38)).alloc (.cells zc 38)).heap[w.heap.size + 1]? = some (.cells zc 38 (0, 0)) := by
    have := heap_alloc_new (w.alloc (.cells zc 38)) (.cells zc 38)
    simpa using this
  have hz4 : ((w.alloc (.cells zc 38)).alloc (.cells zc 38)).heap[w.heap.size]? = some (.cells zc 38 (0, 0)) := blk_alloc (heap_alloc_new w (.cells zc 38)) _
  have st : Sem.run P (storeCells ⟨w.heap.size + 1, 0, none⟩ (enc d[0]!) 0) ((w.alloc (.cells zc 38)).alloc (.cells zc 38)) = .ok () (((w.alloc (.cells zc 38)).alloc (.cells zc 38)).setCells (w.heap.size + 1) 0 (enc d[0]!)) :=
    box_store P hz (by rw [n0, kz]; exact Nat.le_refl _) (R.h1 _)
  have K5 : Aside ((((w.alloc (.cells zc 38)).alloc (.cells zc 38)).setCells (w.heap.size + 1) 0 (enc d[0]!)).heap[w.heap.size + 1]? = some (.cells (enc d[0]!).toArray 38 (0, 0))) := box_set hz (by rw [n0, kz])
  have K4 : Aside ((((w.alloc (.cells zc 38)).alloc (.cells zc 38)).setCells (w.heap.size + 1) 0 (enc d[0]!)).heap[w.heap.size]? = some (.cells zc 38 (0, 0))) := (setCells_far _ _ _ _ _ (by omega)).trans hz4
  have BB : Aside (Below w.heap.size w (((w.alloc (.cells zc 38)).alloc (.cells zc 38)).setCells (w.heap.size + 1) 0 (enc d[0]!))) := below_set0 (below_alloc B1 _) (by omega) _ _
  clear hcmp H B1 hz hz4
  obtain ⟨m0, hm0⟩ : ∃ m0, m0 = d[0]! := ⟨_, rfl⟩
  rw [← hm0] at l0 st K5 K4 BB n0 ⊢
  obtain ⟨c0, hc0⟩ : ∃ c0, c0 = enc m0 := ⟨_, rfl⟩
  rw [← hc0] at l0 st K5 K4 BB n0
  have HM : Aside _ := hm0
  have HC0 : Aside _ := hc0
  clear hm0 hc0
  go_enter L.fM, Try.ntmps44
  go_wp2
  clear st l0
  generalize (((w.alloc (.cells zc 38)).alloc (.cells zc 38)).setCells (w.heap.size + 1) 0 c0) = w2 at K4 K5 BB ⊢
  go_loopg [6] d.size (fun kx s6 wr => ∃ (i : Nat) (m : α), s6 = .int .i64 i ∧ 1 ≤ i ∧ i ≤ d.size ∧ d.size - i ≤ kx ∧ Aside (Below w.heap.size w wr) ∧ Aside (wr.heap[w.heap.size]? = some (.cells zc 38 (0, 0))) ∧ Aside (wr.heap[w.heap.size + 1]? = some (.cells (enc m).toArray 38 (0, 0))) ∧ Aside (m = minOf cf m0 ((d.toList.drop 1).take (i - 1))))
  case atStart =>
    refine ⟨1, m0, rfl, Nat.le_refl _, hd, by omega, BB, K4, by rw [← HC0]; exact K5, ?_⟩
    show _ = _
    simp [minOf]
  case round =>
    clear BB K4 K5 n0
    obtain ⟨i, m, rfl, hi1, hin, hkx, B3, K4, K5, HE⟩ := hrel
    by_cases hlt : i < d.size
    · have hltz : (i : Int) < (d.size : Int) := by omega
      have hiz : (0 : Int) ≤ (i : Int) := by omega
      have ri : IntKind.i64.wrap ((i : Int) + 1) = (i : Int) + 1 := by rw [IntKind.wrap_i64]; omega
      have step : Aside (minOf cf m0 ((d.toList.drop 1).take (i + 1 - 1)) = if cf d[i]! m < 0 then d[i]! else m) := by
        show _ = _
        have hl : i - 1 < (d.toList.drop 1).length := by simp; omega
        have e : i + 1 - 1 = (i - 1) + 1 := by omega
        rw [e, List.take_succ_eq_append_getElem hl, minOf, List.foldl_append]
        have hx : (d.toList.drop 1)[i - 1] = d[i]! := by
          rw [List.getElem_drop, Array.getElem_toList, getElem!_pos d i hlt]
          congr 1; omega
        have hm := HE.out
        rw [minOf] at hm
        rw [← hm, hx]; rfl
      have lx : ∀ p : SomeW wr, Sem.run P (loadCellsFrom ⟨blk, off + i * k, none⟩ 0 k #[]) p.W = .ok (enc d[i]!).toArray p.W := fun p => load_at (holdsK_below (holdsK_below HH.out hblk B3.out) (Nat.lt_of_lt_of_le hblk B3.out.size) p.h) R P i hlt
      have lm : ∀ p : SomeW wr, Sem.run P (loadCellsFrom ⟨w.heap.size + 1, 0, none⟩ 0 k #[]) p.W = .ok (enc m).toArray p.W := fun p => box_load P (blk_below K5.out p.h) (R.hk _)
      have hc : ∀ p : SomeW wr, Calls P g (#[.agg (enc d[i]!).toArray, .agg (enc m).toArray] ++ #[]) p.W fun e W' => e = .returned (.int .i64 (cf d[i]! m)) ∧ Below p.W.heap.size p.W W' := fun p => HC.out _ _ _ (below_then B3.out B3.out.size p.h)
      have nx : (enc d[i]!).length = k := R.hk _
      have nm : (enc m).length = k := R.hk _
      have hx1 : ∀ v ∈ enc d[i]!, v.oneCell' = true := R.h1 _
      have HX1 : Aside _ := hx1
      have lx2 : Aside (∀ p : SomeW wr, Sem.run P (loadCellsFrom ⟨blk, off + i * k, none⟩ 0 k #[]) p.W = .ok (enc d[i]!).toArray p.W) := lx
      obtain ⟨cx, hcx⟩ : ∃ cx, cx = enc d[i]! := ⟨_, rfl⟩
      obtain ⟨cm, hcm⟩ : ∃ cm, cm = enc m := ⟨_, rfl⟩
      rw [← hcx] at lx hc nx lx2 HX1
      rw [← hcm] at lm hc nm K5
      have HCX : Aside _ := hcx
      have HCM : Aside _ := hcm
      clear hx1 hcx hcm
      by_cases hv : cf d[i]! m < 0
      · have hd3 : decide (cf d[i]! m < 0) = true := decide_eq_true hv
        have ST : Aside (minOf cf m0 ((d.toList.drop 1).take (i + 1 - 1)) = d[i]!) := by
          show _ = _
          rw [step.out, if_pos hv]
        clear step
        generalize cf d[i]! m = cv at *
        go_wp2_with fail
        refine wp_region_quiet_below (by assumption) (by kernel_rfl) ?_
        repeat (quiet_step (first | (go_at_fn g; refine Calls.below_of (hc _))))
        refine wpQuiet_nil ?_
        intro w3 hw'
        obtain ⟨p_, hp_⟩ := hw'
        have l3 : Sem.run P (loadCellsFrom ⟨blk, off + i * k, none⟩ 0 k #[]) w3 = .ok cx.toArray w3 := by rw [hp_]; exact lx2.out p_
        have B4 : Aside (Below w.heap.size w w3) := by rw [hp_]; exact below_then B3.out B3.out.size p_.h
        have K4' : Aside (w3.heap[w.heap.size]? = some (.cells zc 38 (0, 0))) := by rw [hp_]; exact blk_below K4.out p_.h
        have K5' : Aside (w3.heap[w.heap.size + 1]? = some (.cells cm.toArray 38 (0, 0))) := by rw [hp_]; exact blk_below K5.out p_.h
        clear hp_ p_ lx lm hc lx2 B3 K4 K5
        have st3 : Sem.run P (storeCells ⟨w.heap.size + 1, 0, none⟩ cx 0) w3 = .ok () (w3.setCells (w.heap.size + 1) 0 cx) := box_store P K5'.out (by simp; omega) HX1.out
        have K5'' : Aside ((w3.setCells (w.heap.size + 1) 0 cx).heap[w.heap.size + 1]? = some (.cells cx.toArray 38 (0, 0))) := box_set K5'.out (by simp; omega)
        have K4'' : Aside ((w3.setCells (w.heap.size + 1) 0 cx).heap[w.heap.size]? = some (.cells zc 38 (0, 0))) := (setCells_far _ _ _ _ _ (by omega)).trans K4'.out
        have B5 : Aside (Below w.heap.size w (w3.setCells (w.heap.size + 1) 0 cx)) := below_set0 B4.out (by omega) _ _
        clear B4 K4' K5'
        (try simp only [] at *)
        go_wp2
        go_roundg (d.size - (i + 1))
        case measure => omega
        case rel => exact ⟨i + 1, d[i]!, by go_num, by omega, by omega, by omega, B5, K4'', by rw [← HCX]; exact K5'', ST.out.symm⟩
      · have hd3 : decide (cf d[i]! m < 0) = false := decide_eq_false hv
        have ST : Aside (minOf cf m0 ((d.toList.drop 1).take (i + 1 - 1)) = m) := by
          show _ = _
          rw [step.out, if_neg hv]
        clear step
        generalize cf d[i]! m = cv at *
        go_wp2_with fail
        refine wp_region_quiet_below (by assumption) (by kernel_rfl) ?_
        repeat (quiet_step (first | (go_at_fn g; refine Calls.below_of (hc _))))
        refine wpQuiet_nil ?_
        intro w3 hw'
        obtain ⟨p_, hp_⟩ := hw'
        have B4 : Aside (Below w.heap.size w w3) := by rw [hp_]; exact below_then B3.out B3.out.size p_.h
        have K4' : Aside (w3.heap[w.heap.size]? = some (.cells zc 38 (0, 0))) := by rw [hp_]; exact blk_below K4.out p_.h
        have K5' : Aside (w3.heap[w.heap.size + 1]? = some (.cells cm.toArray 38 (0, 0))) := by rw [hp_]; exact blk_below K5.out p_.h
        clear hp_ p_ lx lm hc lx2 B3 K4 K5
        (try simp only [] at *)
        go_wp2
        go_roundg (d.size - (i + 1))
        case measure => omega
        case rel => exact ⟨i + 1, m, by go_num, by omega, by omega, by omega, B4, K4', by rw [← HCM]; exact K5', ST.out.symm⟩
    · obtain rfl : i = d.size := by omega
      have hltz : ¬ (d.size : Int) < (d.size : Int) := by omega
      have nm : (enc m).length = k := R.hk _
      have lm : Sem.run P (loadCellsFrom ⟨w.heap.size + 1, 0, none⟩ 0 k #[]) wr = .ok (enc m).toArray wr := box_load P K5.out (R.hk _)
      have st4 : Sem.run P (storeCells ⟨w.heap.size, 0, none⟩ (enc m) 0) wr = .ok () (wr.setCells w.heap.size 0 (enc m)) := box_store P K4.out (by rw [nm, kz]; exact Nat.le_refl _) (R.h1 _)
      have K6 := box_set (vs := enc m) K4.out (by rw [nm, kz])
      have B5 := below_set0 B3.out (Nat.le_refl _) 0 (enc m)
      have hme : Aside (m = minOf cf d[0]! (d.toList.drop 1)) := by
        have := HE.out
        rw [HM.out, List.take_of_length_le (by simp)] at this
        exact this
      clear K4 K5 B3 HE
      generalize hcm9 : enc m = cm9 at nm lm st4 K6 B5
      have HCM9 : Aside _ := hcm9
      clear hcm9
      generalize wr.setCells w.heap.size 0 cm9 = w9 at st4 K6 B5
      have HK6 : Aside _ := K6
      clear K6
      go_wp2
      refine bodyPost_ret (v := .agg cm9.toArray) ?_ rfl ⟨?_, B5⟩
      · exact results_cell_row rfl _ _ w.heap.size 38 cm9.toArray (0, 0) _ rfl HK6.out sE rfl (by rw [L.iE]; simp; omega)
      · rw [← HCM9.out, hme.out, ← HM.out]; simp
end Go.Proofs.Ytcbgcmaioicdbaa.Stab
