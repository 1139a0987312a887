/- slices.DeleteFunc at structs of k cells, in a row of the call's own: what stays stands ahead, in its order. -/
import Derived.Test.YtcbgcmaioicdbaaStbr
namespace Go.Proofs.Ytcbgcmaioicdbaa.Stab
open Go.Shelf Go.RowKit Go.Lib Go.Sort Go.Proofs.YtcbgcmaioicdbaaW.PrintWords
set_option linter.unusedVariables false
set_option linter.unusedSimpArgs false
set_option linter.unusedSectionVars false
variable {α : Type} [Inhabited α]
theorem setMany_put (enc : α → List Value) (k : Nat) (hk : ∀ x, (enc x).length = k) (d : Array α) (i : Nat) (hi : i < d.size) (x : α) :
    setMany (flatK enc k d) (i * k) (enc x) = flatK enc k (d.setIfInBounds i x) := by
  refine ext_get! (by simp) fun t ht => ?_
  have ht' : t < d.size * k := by simpa using ht
  have k0 : 0 < k := by rcases Nat.eq_zero_or_pos k with h | h; · subst h; simp at ht'
                        · exact h
  have hq : t / k < d.size := (Nat.div_lt_iff_lt_mul k0).2 ht'
  rw [get_setMany _ _ _ t (by simpa using ht'), get_flatK _ _ _ t ht', get_flatK _ _ _ t (by simpa using ht'), hk]
  by_cases a : t / k = i
  · rw [if_pos ((blk_iff k i t k0).2 a)]
    have e : t - i * k = t % k := by subst a; rw [Nat.mod_eq_sub_div_mul]
    rw [e, a]
    simp [hi]
  · rw [if_neg (fun h => a ((blk_iff k i t k0).1 h))]
    have : (d.setIfInBounds i x)[t / k]! = d[t / k]! := by
      rw [getElem!_pos (d.setIfInBounds i x) (t / k) (by simpa using hq), getElem!_pos d (t / k) hq, Array.getElem_setIfInBounds, if_neg (fun h => a h.symm)]
    rw [this]
theorem holdsK_below {enc : α → List Value} {k : Nat} {W W' : World} {b o : Nat} {d : Array α} (h : HoldsK enc k W b o d) (hb : b < W.heap.size) (B : Below W.heap.size W W') : HoldsK enc k W' b o d := fun j hj =>
  ⟨(World.cell?_of_block (B.block b hb)).trans (h j hj).1, (World.frozen?_of_block (B.block b hb)).trans (h j hj).2⟩
theorem SWB.put {enc : α → List Value} {k : Nat} {w0 W : World} {blk off : Nat} {dk : Array α} (h : SWB enc k w0 blk off dk W) (R : RowB enc k) (i : Nat) (hi : i < dk.size) (x : α) : SWB enc k w0 blk off (dk.setIfInBounds i x) (W.setCells blk (off + i * k) (enc x)) :=
  h.set _ _ _ (by rw [HoldsK, ← setMany_put enc k R.hk dk i hi x]; exact holds_setCells_c h.holds (i * k) (enc x) (by rw [R.hk, size_flatK]; exact rowK_bnd dk k i hi))
theorem SWB.st {enc : α → List Value} {k : Nat} {w0 W : World} {blk off : Nat} {dk : Array α} (h : SWB enc k w0 blk off dk W) (R : RowB enc k) (P : Program) (i : Nat) (hi : i < dk.size) (y : α) :
    Sem.run P (storeCells ⟨blk, off + i * k, none⟩ (enc y) 0) W = .ok () (W.setCells blk (off + i * k) (enc y)) :=
  stores_of_holds P h.holds (i * k) _ (by rw [R.hk, size_flatK]; exact rowK_bnd dk k i hi) (R.h1 _)
/-- the rest of the row laid over: what stands ahead stays -/
theorem SWB.cut {enc : α → List Value} {k : Nat} {w0 W : World} {blk off : Nat} {dk : Array α} (h : SWB enc k w0 blk off dk W) (i : Nat) (hi : i ≤ dk.size) (vs : List Value) (hv : i * k + vs.length ≤ dk.size * k) :
    SWB enc k w0 blk off (dk.take i) (W.setCells blk (off + i * k) vs) :=
  h.set _ _ _ (fun t ht => by
    rw [size_flatK] at ht
    have hs : (dk.take i).size = i := by simp; omega
    rw [hs] at ht
    have hle : i * k ≤ dk.size * k := Nat.mul_le_mul_right k hi
    have H := holds_setCells_c h.holds (i * k) vs (by rw [size_flatK]; exact hv)
    have := H t (by rw [size_setMany, size_flatK]; omega)
    rw [get_setMany _ _ _ t (by rw [size_flatK]; omega), if_neg (by omega), get_flatK _ _ _ t (by omega)] at this
    rw [get_flatK _ _ _ t (by rw [hs]; exact ht)]
    have k0 : 0 < k := by rcases Nat.eq_zero_or_pos k with h0 | h0; · subst h0; simp at ht
                          · exact h0
    have hq : t / k < i := (Nat.div_lt_iff_lt_mul k0).2 ht
    have e : (dk.take i)[t / k]! = dk[t / k]! := by
      rw [getElem!_pos (dk.take i) (t / k) (by rw [hs]; exact hq), getElem!_pos dk (t / k) (by omega)]
      simp
    rw [e]; exact this)
theorem own_part (d : Kd α) (enc : α → List Value) (hk : ∀ x, (enc x).length = d.sz) (hM' : ∀ (w : World) (base : Nat) (ok : Nat → Prop) (x : α), d.M w base ok x (enc x)) {e : Nat} {w W : World} {base : Nat} {ok : Nat → Prop} {g cap : Nat} {cs0 : Array Value} {dk : Array α}
    (hok : ok g) (hg : base ≤ g) (hh : w.heap[g]? = some (.cells cs0 e (0, 0))) (hcs : cs0.size = cap * d.sz) (hcap : cap ≤ Go.maxLen) (hn : dk.size ≤ cap) (hS : SWB enc d.sz w g 0 dk W) : d.R e W base ok (.slice (some ⟨g, 0, none⟩) dk.toList.length cap) dk.toList := by
  obtain ⟨e', cs0', cs, h1, h2, h3⟩ := hS.shape
  rw [hh] at h1
  injection h1 with h1
  injection h1 with h1 h4
  subst h1; subst h4
  have hH := hS.holds
  have hdl : dk.toList.length = dk.size := by simp
  have hsz : dk.size * d.sz ≤ cs.size := by rw [h3, hcs]; exact Nat.mul_le_mul_right _ hn
  have hcl : cs.toList.length = cs.size := by simp
  refine ⟨fun k hk => by cases hk; exact hok, cs.toList.take (dk.size * d.sz), ⟨?_, .inr ⟨g, cap, cs, rfl, hg, h2, by rw [hdl]; exact hn, hcap, h3.trans hcs, by rw [hdl]⟩⟩, ?_⟩
  · rw [List.length_take, hcl, hdl]; omega
  · refine ⟨by rw [List.length_take, hcl, hdl]; omega, fun j p hj => ?_⟩
    obtain ⟨hjl, hjp⟩ := List.getElem?_eq_some_iff.1 hj
    have hjd : j < dk.size := by simpa using hjl
    have hb := rowK_bnd dk d.sz j hjd
    have : (((cs.toList.take (dk.size * d.sz)).drop (j * d.sz)).take d.sz) = enc p := by
      apply List.ext_getElem
      · rw [List.length_take, List.length_drop, List.length_take, hcl, hk]; omega
      · intro i hi1 hi2
        have hi : i < d.sz := by rw [hk] at hi2; exact hi2
        rw [List.getElem_take, List.getElem_drop, List.getElem_take]
        have hc := (hH (j * d.sz + i) (by rw [size_flatK]; omega)).1
        rw [Nat.zero_add, blk_cell h2, flatK_at enc d.sz hk dk j i hjd hi] at hc
        have hx : dk[j]! = p := by
          rw [getElem!_pos dk j hjd, ← hjp]; simp
        rw [hx, getElem!_pos (enc p) i hi2] at hc
        obtain ⟨hq, hc⟩ := Array.getElem?_eq_some_iff.1 hc
        rw [Array.getElem_toList]
        exact hc
    rw [this]
    exact hM' _ _ _ _
structure LayD (P : Program) (k : Nat) (zc : Array Value) : Prop where
  mixed : P.follows .mixedOrders = true
  fD : P.funcs[27]? = some Try.f27
  fI : P.funcs[48]? = some Try.f48
  t0 : P.underlying 0 = some (TypeDesc.tuple #[])
  a0 : ∀ w, (isAgg 0).run P w = .ok false w
  z0 : ∀ w, (Go.sizeOf 0).run P w = .ok 1 w
  v0 : ∀ w, (zeroValue 0).run P w = .ok (Value.tuple #[]) w
  t3 : P.underlying 3 = some (TypeDesc.int IntKind.i64)
  a3 : ∀ w, (isAgg 3).run P w = .ok false w
  z3 : ∀ w, (Go.sizeOf 3).run P w = .ok 1 w
  v3 : ∀ w, (zeroValue 3).run P w = .ok (Value.int IntKind.i64 0) w
  t4 : P.underlying 4 = some (TypeDesc.bool)
  a4 : ∀ w, (isAgg 4).run P w = .ok false w
  z4 : ∀ w, (Go.sizeOf 4).run P w = .ok 1 w
  v4 : ∀ w, (zeroValue 4).run P w = .ok (Value.bool false) w
  t22 : P.underlying 22 = some (TypeDesc.slice 38)
  a22 : ∀ w, (isAgg 22).run P w = .ok false w
  z22 : ∀ w, (Go.sizeOf 22).run P w = .ok 1 w
  v22 : ∀ w, (zeroValue 22).run P w = .ok (Value.slice none 0 0) w
  t49 : P.underlying 49 = some (TypeDesc.func #[38] #[4] false)
  a49 : ∀ w, (isAgg 49).run P w = .ok false w
  z49 : ∀ w, (Go.sizeOf 49).run P w = .ok 1 w
  v49 : ∀ w, (zeroValue 49).run P w = .ok (Value.nilFunc) w
  aE : ∀ w, (isAgg 38).run P w = .ok true w
  zE : ∀ w, (Go.sizeOf 38).run P w = .ok k w
  vE : ∀ w, (zeroValue 38).run P w = .ok (.agg zc) w
  kz : zc.size = k
theorem run_clear_k {P : Program} (w : World) (t e ty : TypeId) (zc : Array Value) (ht : P.underlying t = some (.slice e)) (hv : ∀ w, (zeroValue e).run P w = .ok (.agg zc) w) (b o n c : Nat) (hn : 0 < n) (vs : List Value) (hvs : vs = (Builtin.zeroCells zc n).toList)
    (hst : (storeCells ⟨b, o, none⟩ vs 0).run P w = .ok () (w.setCells b o vs)) :
    (Builtin.clear_ #[t] ty #[.slice (some ⟨b, o, none⟩) n c]).run P w = .ok (.tuple #[]) (w.setCells b o vs) := by
  subst hvs
  obtain ⟨m, rfl⟩ : ∃ m, n = m + 1 := ⟨n - 1, by omega⟩
  have hc : (Value.agg zc).cells = zc := by simp [Value.cells]
  simp [Builtin.clear_, run_underlying ht, hv, hc, hst]
variable {P : Program} {k : Nat} {zc : Array Value}
theorem filter_snoc_f (p : α → Bool) (l : List α) (j : Nat) (hj : j < l.length) (h : p l[j] = true) : (l.take (j + 1)).filter (fun x => !p x) = (l.take j).filter (fun x => !p x) := by
  rw [List.take_succ_eq_append_getElem hj, List.filter_append]; simp [h]
theorem filter_snoc_t (p : α → Bool) (l : List α) (j : Nat) (hj : j < l.length) (h : p l[j] = false) : (l.take (j + 1)).filter (fun x => !p x) = (l.take j).filter (fun x => !p x) ++ [l[j]] := by
  rw [List.take_succ_eq_append_getElem hj, List.filter_append]; simp [h]
/-- a new cell block of one element -/
theorem holdsK_new (enc : α → List Value) (z : α) (W : World) (e : TypeId) (hz : (enc z).length = k) (hzc : zc = (enc z).toArray) : HoldsK enc k (W.alloc (.cells zc e)) W.heap.size 0 #[z] := by
  intro t ht
  rw [size_flatK] at ht
  have ht' : t < k := by simpa using ht
  have hd : t / k = 0 := Nat.div_eq_of_lt ht'
  have hm : t % k = t := Nat.mod_eq_of_lt ht'
  have hb := heap_alloc_new W (.cells zc e)
  refine ⟨?_, by rw [Nat.zero_add]; exact blk_frozen hb t⟩
  rw [Nat.zero_add, blk_cell hb t, get_flatK enc k #[z] t (by simp; exact ht'), hd, hm, hzc]
  simp only [List.getElem?_toArray]
  have : (#[z] : Array α)[0]! = z := rfl
  rw [this, List.getElem?_eq_getElem (by omega), getElem!_pos (enc z) t (by omega)]
  rfl
theorem take_snoc_set (dk : Array α) (i : Nat) (hi : i < dk.size) (x : α) : (dk.setIfInBounds i x).toList.take (i + 1) = dk.toList.take i ++ [x] := by
  have hi' : i < dk.toList.length := by simpa using hi
  rw [Array.toList_setIfInBounds, List.take_succ_eq_append_getElem (by simpa using hi), List.take_set_of_le (Nat.le_refl i)]
  simp
theorem below_box (W : World) (zc : Array Value) (e : TypeId) (vs : List Value) : Below W.heap.size W ((W.alloc (.cells zc e)).setCells W.heap.size 0 vs) := by
  have hA : Below W.heap.size W (W.alloc (.cells zc e)) := below_alloc (Below.refl _ _) _
  obtain ⟨r1, r2, r3, r4⟩ := setCells_rest W.heap.size vs 0 (W.alloc (.cells zc e))
  exact ⟨r1.trans hA.os, r2.trans hA.tape, r3.trans hA.output, by rw [r4]; exact hA.size, fun i hi => (setCells_far W.heap.size vs 0 _ i (by omega)).trans (hA.block i hi)⟩
set_option maxHeartbeats 8000000 in
set_option maxRecDepth 1000000 in
theorem delFunc (L : LayD P k zc) (enc : α → List Value) (p : α → Bool) (g : Nat) (lb : Array Value) (eg : ∀ args w, (callFunc g args).run P w = .ok (.enter g args) w) (z : α) (hzc : zc = (enc z).toArray)
    (blk off cap : Nat) (d : Array α) (w : World) (R : RowB enc k) (S : SWB enc k w blk off d w) (i0 : Nat) (hi0 : i0 < d.size) (hpi : p d[i0]! = true) (hbef : (d.toList.take i0).filter (fun x => !p x) = d.toList.take i0)
    (hidx : Calls P 48 #[.slice (some ⟨blk, off, none⟩) d.size cap, .func (.func g) #[] lb] w fun e w' => e = .returned (.int .i64 i0) ∧ Below w.heap.size w w')
    (hp : ∀ (W : World) (x : α), w.grownBy W (some blk) → Calls P g (#[.agg (enc x).toArray] ++ lb) W fun e W' => e = .returned (.bool (p x)) ∧ Below W.heap.size W W')
    (hsz : d.size < 4611686018427387904) (hcap : d.size ≤ cap) :
    Calls P 27 #[.slice (some ⟨blk, off, none⟩) d.size cap, .func (.func g) #[] lb] w fun e w' => ∃ dk : Array α, e = .returned (.slice (some ⟨blk, off, none⟩) dk.size cap) ∧ dk.toList = d.toList.filter (fun x => !p x) ∧ SWB enc k w blk off dk w' := by
  have mixed := L.mixed; have t0 := L.t0; have a0 := L.a0; have z0 := L.z0; have v0 := L.v0; have t3 := L.t3; have a3 := L.a3; have z3 := L.z3; have v3 := L.v3; have t4 := L.t4; have a4 := L.a4; have z4 := L.z4; have v4 := L.v4; have t22 := L.t22; have a22 := L.a22; have z22 := L.z22; have v22 := L.v22; have t49 := L.t49; have a49 := L.a49; have z49 := L.z49; have v49 := L.v49; have aE := L.aE; have zE := L.zE; have vE := L.vE; have kz := L.kz; have u0 := run_underlying L.t0; have u3 := run_underlying L.t3; have u4 := run_underlying L.t4; have u22 := run_underlying L.t22; have u49 := run_underlying L.t49
  have enI : ∀ args w, (callFunc 48 args).run P w = .ok (.enter 48 args) w := enters_of L.fI (by kernel_rfl) rfl
  have S0 : Aside (SWB enc k w blk off d w) := S
  have HP : Aside _ := hp
  have HB0 : Aside _ := hbef
  have HZ : Aside _ := hzc
  have hne : ¬ ((i0 : Int) = -1) := by omega
  have hneb : ((i0 : Int) == -1) = false := beq_eq_false_iff_ne.2 hne
  have ri0 : IntKind.i64.wrap ((i0 : Int) + 1) = (i0 : Int) + 1 := by rw [IntKind.wrap_i64]; omega
  clear S hp hbef hzc
  go_enter L.fD, Try.ntmps27
  go_wp2_with (go_at_fn 48; refine hidx.mono ?_; rintro e w1 ⟨rfl, hb1⟩)
  have S1 : Aside (SWB enc k w blk off d w1) := S0.out.grown hb1
  clear S0 hidx hb1
  go_wp2
  go_loopg [5, 6, 7] d.size (fun kx s5 s6 _ wr => ∃ (i j : Nat) (dk : Array α), s5 = .int .i64 i ∧ s6 = .int .i64 j ∧ i < j ∧ j ≤ d.size ∧ d.size - j ≤ kx ∧ dk.size = d.size ∧ Aside (SWB enc k w blk off dk wr) ∧ Aside (dk.toList.take i = (d.toList.take j).filter (fun x => !p x)) ∧ Aside (∀ m, j ≤ m → m < d.size → dk[m]! = d[m]!))
  case atStart =>
    refine ⟨i0, i0 + 1, d, rfl, by go_num, by omega, by omega, by omega, rfl, S1, ?_, fun m _ _ => rfl⟩
    show _ = _
    have hl : i0 < d.toList.length := by simpa using hi0
    rw [filter_snoc_f p d.toList i0 hl (by rw [Array.getElem_toList]; rw [getElem!_pos d i0 hi0] at hpi; exact hpi)]
    exact HB0.symm
  case round =>
    clear S1 ri0 hneb hne
    obtain ⟨i, j, dk, rfl, rfl, hij, hjn, hkx, hds, S2, HF, HR⟩ := hrel
    by_cases hlt : j < d.size
    · have hltz : (j : Int) < (d.size : Int) := by omega
      have hjz : (0 : Int) ≤ (j : Int) := by omega
      have hx : Aside (dk[j]! = d[j]!) := HR.out j (Nat.le_refl _) hlt
      have hjd : j < dk.size := by omega
      have hid : i < dk.size := by omega
      have l1 := S2.out.load R P j hjd
      have H0 := holdsK_new (k := k) enc z wr 38 (R.hk z) HZ.out
      have hk0 : 0 * k + (enc dk[j]!).length ≤ (flatK enc k #[z]).size := by rw [size_flatK, R.hk]; simp
      have st0 : Sem.run P (storeCells ⟨wr.heap.size, 0, none⟩ (enc dk[j]!) 0) (wr.alloc (.cells zc 38)) = .ok () ((wr.alloc (.cells zc 38)).setCells wr.heap.size 0 (enc dk[j]!)) := by
        have := stores_of_holds P H0 (0 * k) (enc dk[j]!) hk0 (R.h1 _)
        simpa using this
      have H2 : Aside (HoldsK enc k ((wr.alloc (.cells zc 38)).setCells wr.heap.size 0 (enc dk[j]!)) wr.heap.size 0 #[dk[j]!]) := by
        have := holds_setCells_c H0 (0 * k) (enc dk[j]!) hk0
        rw [setMany_put enc k R.hk #[z] 0 (by simp) dk[j]!] at this
        show Holds id _ _ 0 (flatK enc k #[dk[j]!])
        simpa using this
      have B2 := below_box wr zc 38 (enc dk[j]!)
      have S3 : Aside (SWB enc k w blk off dk ((wr.alloc (.cells zc 38)).setCells wr.heap.size 0 (enc dk[j]!))) := S2.out.grown B2
      have hsz2 : wr.heap.size < ((wr.alloc (.cells zc 38)).setCells wr.heap.size 0 (enc dk[j]!)).heap.size := by
        rw [(setCells_rest wr.heap.size (enc dk[j]!) 0 (wr.alloc (.cells zc 38))).2.2.2]; simp
      have ld0 : Aside (∀ W' : World, Below ((wr.alloc (.cells zc 38)).setCells wr.heap.size 0 (enc dk[j]!)).heap.size ((wr.alloc (.cells zc 38)).setCells wr.heap.size 0 (enc dk[j]!)) W' → Sem.run P (loadCellsFrom ⟨wr.heap.size, 0, none⟩ 0 k #[]) W' = .ok (enc dk[j]!).toArray W') := fun W' hb => by
        have h3 := holdsK_below H2.out hsz2 hb
        have := run_loadCellsFrom_list P W' ⟨wr.heap.size, 0 + 0 * k, none⟩ (enc (#[dk[j]!] : Array α)[0]!) k (R.hk _) (HoldsK.cells h3 R.hk (i := 0) (by simp))
        simpa using this
      have hcall := HP.out _ dk[j]! S3.out.keep
      have nx : (enc dk[j]!).length = k := R.hk _
      have ld1 := ld0.out _ (Below.refl _ _)
      have rj : IntKind.i64.wrap ((j : Int) + 1) = (j : Int) + 1 := by rw [IntKind.wrap_i64]; omega
      have ri : IntKind.i64.wrap ((i : Int) + 1) = (i : Int) + 1 := by rw [IntKind.wrap_i64]; omega
      have hiz : (0 : Int) ≤ (i : Int) := by omega
      have hidz : (i : Int) < (d.size : Int) := by omega
      have sti : Aside (∀ W' : World, SWB enc k w blk off dk W' → Sem.run P (storeCells ⟨blk, off + i * k, none⟩ (enc dk[j]!) 0) W' = .ok () (W'.setCells blk (off + i * k) (enc dk[j]!))) := fun W' h => h.st R P i hid dk[j]!
      have puti : Aside (∀ W' : World, SWB enc k w blk off dk W' → SWB enc k w blk off (dk.setIfInBounds i dk[j]!) (W'.setCells blk (off + i * k) (enc dk[j]!))) := fun W' h => h.put R i hid dk[j]!
      clear H0 hk0 B2 hsz2 S2 H2
      generalize hX : dk[j]! = X at *
      generalize enc X = cx at *
      cases hq : p X with
      | true =>
        rw [hq] at hcall
        have HQ : Aside _ := hq
        clear hq
        go_wp2_with fail
        refine hcall.mono ?_
        rintro e w3 ⟨rfl, hb⟩
        have S4 : Aside (SWB enc k w blk off dk w3) := S3.out.grown hb
        clear hcall hb S3 ld0 ld1 st0 l1 sti puti ri
        go_wp2
        go_roundg (d.size - (j + 1))
        case measure => omega
        case rel =>
          refine ⟨i, j + 1, dk, rfl, by go_num, by omega, by omega, by omega, hds, S4, ?_, fun m hm hm2 => HR.out m (by omega) hm2⟩
          show _ = _
          have hl : j < d.toList.length := by simpa using hlt
          rw [filter_snoc_f p d.toList j hl (by have h1 := hx.out; have h2 := HQ.out; rw [getElem!_pos d j hlt] at h1; rw [Array.getElem_toList, ← h1]; exact h2)]
          exact HF.out
      | false =>
        rw [hq] at hcall
        have HQ : Aside _ := hq
        clear hq
        go_wp2_with fail
        refine hcall.mono ?_
        rintro e w3 ⟨rfl, hb⟩
        have l3 := ld0.out w3 hb
        have s3 := sti.out w3 (S3.out.grown hb)
        have S4 : Aside (SWB enc k w blk off (dk.setIfInBounds i X) (w3.setCells blk (off + i * k) cx)) := puti.out w3 (S3.out.grown hb)
        clear hcall hb S3 ld0 ld1 st0 l1 sti puti
        go_wp2
        go_roundg (d.size - (j + 1))
        case measure => omega
        case rel =>
          refine ⟨i + 1, j + 1, dk.setIfInBounds i X, by go_num, by go_num, by omega, by omega, by omega, by simpa using hds, S4, ?_, ?_⟩
          · show _ = _
            have hl : j < d.toList.length := by simpa using hlt
            have h1 := hx.out
            rw [getElem!_pos d j hlt] at h1
            rw [filter_snoc_t p d.toList j hl (by rw [Array.getElem_toList, ← h1]; exact HQ.out), take_snoc_set dk i hid, HF.out, Array.getElem_toList, h1]
          · intro m hm hm2
            have hm3 : m < dk.size := by omega
            rw [← HR.out m (by omega) hm2, getElem!_pos (dk.setIfInBounds i X) m (by simpa using hm3), getElem!_pos dk m hm3, Array.getElem_setIfInBounds, if_neg (by omega)]
    · obtain rfl : j = d.size := by omega
      have hltz : ¬ (d.size : Int) < (d.size : Int) := by omega
      have hid : i < dk.size := by omega
      have hiz : (0 : Int) ≤ (i : Int) := by omega
      have hidz : (i : Int) ≤ (d.size : Int) := by omega
      have hne2 : ¬ cap = i := by omega
      have nz : (Builtin.zeroCells zc (d.size - i)).toList.length = (d.size - i) * k := by
        rw [Array.length_toList, size_zeroCells, L.kz]
      have hcut : Aside (SWB enc k w blk off (dk.take i) (wr.setCells blk (off + i * k) (Builtin.zeroCells zc (d.size - i)).toList)) :=
        S2.out.cut i (by omega) _ (by rw [nz, ← Nat.add_mul]; exact Nat.mul_le_mul_right _ (by omega))
      have h1z : ∀ v ∈ (Builtin.zeroCells zc (d.size - i)).toList, v.oneCell' = true := by
        intro v hv
        have hzz : ∀ u ∈ zc, u.oneCell' = true := fun u hu => by
          rw [HZ.out] at hu
          exact R.h1 z u (by simpa using hu)
        rw [Array.mem_toList_iff] at hv
        unfold Builtin.zeroCells at hv
        obtain ⟨q, hq, rfl⟩ := Array.mem_map.1 hv
        have hq2 : q < (d.size - i) * zc.size := by simpa using hq
        have hz0 : 0 < zc.size := by
          rcases Nat.eq_zero_or_pos zc.size with h0 | h0
          · rw [h0] at hq2; simp at hq2
          · exact h0
        rw [getElem!_pos zc (q % zc.size) (Nat.mod_lt _ hz0)]
        exact hzz _ (Array.getElem_mem _)
      have hst := stores_of_holds P S2.out.holds (i * k) _ (by rw [nz, size_flatK, hds, ← Nat.add_mul]; exact Nat.mul_le_mul_right _ (by omega)) h1z
      have hcl : ∀ ty c, (Builtin.clear_ #[22] ty #[.slice (some ⟨blk, off + i * k, none⟩) (d.size - i) c]).run P wr = .ok (.tuple #[]) (wr.setCells blk (off + i * k) (Builtin.zeroCells zc (d.size - i)).toList) := fun ty c =>
        run_clear_k wr 22 38 ty zc t22 vE blk (off + i * k) (d.size - i) c (by omega) _ rfl hst
      clear hst h1z nz
      go_wp2
      go_ret
      have hs : (dk.take i).size = i := by simp; omega
      refine ⟨dk.take i, by rw [hs]; rfl, ?_, hcut.out⟩
      have hf := HF.out
      rw [show d.toList.take d.size = d.toList from List.take_of_length_le (by simp)] at hf
      rw [← hf]; simp
theorem layD : LayD Try.prog 8 #[.int .i64 0, .int .i64 0, .bool false, .int .i64 0, .string ⟨#[]⟩, .bool false, .int .i64 0, .string ⟨#[]⟩] where
  mixed := by kernel_rfl
  fD := Try.func27
  fI := Try.func48
  t0 := Try.underlying0
  a0 := Try.isAgg0
  z0 := Try.sizeOf0
  v0 := Try.zeroValue0
  t3 := Try.underlying3
  a3 := Try.isAgg3
  z3 := Try.sizeOf3
  v3 := Try.zeroValue3
  t4 := Try.underlying4
  a4 := Try.isAgg4
  z4 := Try.sizeOf4
  v4 := Try.zeroValue4
  t22 := Try.underlying22
  a22 := Try.isAgg22
  z22 := Try.sizeOf22
  v22 := Try.zeroValue22
  t49 := Try.underlying49
  a49 := Try.isAgg49
  z49 := Try.sizeOf49
  v49 := Try.zeroValue49
  aE := Try.isAgg38
  zE := Try.sizeOf38
  vE := Try.zeroValue38
  kz := rfl

end Go.Proofs.Ytcbgcmaioicdbaa.Stab
