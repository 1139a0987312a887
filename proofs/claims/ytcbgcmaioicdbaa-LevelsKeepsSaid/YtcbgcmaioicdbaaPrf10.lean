-- printed by xprint.py
import Derived.Test.YtcbgcmaioicdbaaPr0
import Derived.Test.YtcbgcmaioicdbaaPrf28
import Derived.Test.YtcbgcmaioicdbaaPrf24
import Derived.Test.YtcbgcmaioicdbaaPrf25
import Derived.Test.YtcbgcmaioicdbaaPrf33
import Derived.Test.YtcbgcmaioicdbaaPrf26
import Derived.Test.YtcbgcmaioicdbaaPrf30
import Derived.Test.YtcbgcmaioicdbaaPrf32
import Derived.Test.YtcbgcmaioicdbaaPrf34
import Derived.Test.YtcbgcmaioicdbaaPrf35xc
import Derived.Test.YtcbgcmaioicdbaaDel
import Derived.Test.YtcbgcmaioicdbaaThy
namespace Go.Proofs.Ytcbgcmaioicdbaa.Pr
open Go.RowKit Go.Proofs.YtcbgcmaioicdbaaW PrintWords PrintLast PrintMore
set_option linter.unusedVariables false
set_option linter.unusedSimpArgs false

/-! ### levels_Pick: function 10 -/
--@import Derived.Test.YtcbgcmaioicdbaaDel
--@import Derived.Test.YtcbgcmaioicdbaaThy
set_option maxHeartbeats 4000000 in
set_option maxRecDepth 100000 in
theorem Pick_1.calls (gb : Nat) (a x : S38) (w : World) (hb : w.heap[gb]? = some (.cells #[.int .i64 a.f0, .int .i64 a.f1, .bool a.f2.f0, .int .i64 a.f2.f1, .string a.f2.f2, .bool a.f3.f0, .int .i64 a.f3.f1, .string a.f3.f2] 38 (0, 0))) :
  Calls Try.prog 29 (#[.agg #[.int .i64 x.f0, .int .i64 x.f1, .bool x.f2.f0, .int .i64 x.f2.f1, .string x.f2.f2, .bool x.f3.f0, .int .i64 x.f3.f1, .string x.f3.f2]] ++ #[.pointer (some ⟨gb, 0, none⟩)]) w fun e w' => e = .returned (.bool (!ovV x a)) ∧ Below w.heap.size w w' := by
 have hov := fun W => levels_overlap.calls x.f0 x.f1 x.f2.f0 x.f2.f1 x.f2.f2 x.f3.f0 x.f3.f1 x.f3.f2 a.f0 a.f1 a.f2.f0 a.f2.f1 a.f2.f2 a.f3.f0 a.f3.f1 a.f3.f2 (ovV x a) W (levels_overlap.is x a)
 have hK := blk_alloc hb (.cells #[.int .i64 x.f0, .int .i64 x.f1, .bool x.f2.f0, .int .i64 x.f2.f1, .string x.f2.f2, .bool x.f3.f0, .int .i64 x.f3.f1, .string x.f3.f2] 38)
 have hc0 := (blk_cell hK 0).trans rfl
 have hc1 := (blk_cell hK 1).trans rfl
 have hc2 := (blk_cell hK 2).trans rfl
 have hc3 := (blk_cell hK 3).trans rfl
 have hc4 := (blk_cell hK 4).trans rfl
 have hc5 := (blk_cell hK 5).trans rfl
 have hc6 := (blk_cell hK 6).trans rfl
 have hc7 := (blk_cell hK 7).trans rfl
 clear hb hK
 generalize ovV x a = o at hov ⊢
 generalize x.f0 = y0 at *; generalize x.f1 = y1 at *; generalize x.f2.f0 = y2 at *; generalize x.f2.f1 = y3 at *; generalize x.f2.f2 = y4 at *; generalize x.f3.f0 = y5 at *; generalize x.f3.f1 = y6 at *; generalize x.f3.f2 = y7 at *
 generalize a.f0 = z0 at *; generalize a.f1 = z1 at *; generalize a.f2.f0 = z2 at *; generalize a.f2.f1 = z3 at *; generalize a.f2.f2 = z4 at *; generalize a.f3.f0 = z5 at *; generalize a.f3.f1 = z6 at *; generalize a.f3.f2 = z7 at *
 show Calls Try.prog 29 #[.agg #[.int .i64 y0, .int .i64 y1, .bool y2, .int .i64 y3, .string y4, .bool y5, .int .i64 y6, .string y7], .pointer (some ⟨gb, 0, none⟩)] w _
 have HA : Below w.heap.size w (w.alloc (.cells #[.int .i64 y0, .int .i64 y1, .bool y2, .int .i64 y3, .string y4, .bool y5, .int .i64 y6, .string y7] 38)) := below_alloc (Below.refl _ _) _
 have HAA := Aside0.mk HA
 clear HA
 go_enter Try.func29, Try.ntmps29
 go_wp2_with (go_at_call 30; refine (hov _).mono ?_; rintro e w' ⟨rfl, hb'⟩)
 go_ret
 exact ⟨rfl, below_then HAA.out HAA.out.size hb'⟩
set_option maxHeartbeats 4000000 in
set_option maxRecDepth 100000 in
theorem Pick_3.calls (gb : Nat) (c0 c2 c3 : Value) (tt : Int) (x : S38) (w : World) (hb : w.heap[gb]? = some (.cells #[c0, .int .i64 tt, c2, c3] 27 (0, 0))) :
  Calls Try.prog 36 (#[.agg #[.int .i64 x.f0, .int .i64 x.f1, .bool x.f2.f0, .int .i64 x.f2.f1, .string x.f2.f2, .bool x.f3.f0, .int .i64 x.f3.f1, .string x.f3.f2]] ++ #[.pointer (some ⟨gb, 0, none⟩)]) w fun e w' => e = .returned (.bool (decide (tt < x.f1))) ∧ Below w.heap.size w w' := by
 have hK := blk_alloc hb (.cells #[.int .i64 x.f0, .int .i64 x.f1, .bool x.f2.f0, .int .i64 x.f2.f1, .string x.f2.f2, .bool x.f3.f0, .int .i64 x.f3.f1, .string x.f3.f2] 38)
 have hc1 := (blk_cell hK 1).trans rfl
 clear hb hK
 generalize x.f0 = y0 at *; generalize x.f1 = y1 at *; generalize x.f2.f0 = y2 at *; generalize x.f2.f1 = y3 at *; generalize x.f2.f2 = y4 at *; generalize x.f3.f0 = y5 at *; generalize x.f3.f1 = y6 at *; generalize x.f3.f2 = y7 at *
 show Calls Try.prog 36 #[.agg #[.int .i64 y0, .int .i64 y1, .bool y2, .int .i64 y3, .string y4, .bool y5, .int .i64 y6, .string y7], .pointer (some ⟨gb, 0, none⟩)] w _
 have HA : Below w.heap.size w (w.alloc (.cells #[.int .i64 y0, .int .i64 y1, .bool y2, .int .i64 y3, .string y4, .bool y5, .int .i64 y6, .string y7] 38)) := below_alloc (Below.refl _ _) _
 have HAA := Aside0.mk HA
 clear HA
 go_enter Try.func36, Try.ntmps36
 go_wp2
 go_ret
 exact ⟨rfl, HAA.out⟩
def cfLo (x y : S38) : Int := Thy.cmpV x.f2.f0 x.f2.f1 x.f2.f2 y.f2.f0 y.f2.f1 y.f2.f2
theorem cfLo_lt (x y : S38) : ltOf cfLo x y = Thy.less x.f2.f0 x.f2.f1 x.f2.f2 y.f2.f0 y.f2.f1 y.f2.f2 := by
 unfold ltOf cfLo
 cases h : Thy.less x.f2.f0 x.f2.f1 x.f2.f2 y.f2.f0 y.f2.f1 y.f2.f2 with
 | true => exact decide_eq_true (Thy.cmpV_lt.2 h)
 | false => exact decide_eq_false (fun hh => by rw [Thy.cmpV_lt.1 hh] at h; cases h)
theorem cfLo_swo : Sort.SWO (ltOf cfLo) := by
 refine ⟨fun x => ?_, fun x y z h1 h2 => ?_, fun x y z h1 h2 => ?_⟩
 ·rw [cfLo_lt]; exact Thy.less_irrefl _ _ _
 ·rw [cfLo_lt] at *; exact Thy.less_trans h1 h2
 ·rw [cfLo_lt] at *; exact Thy.notless_trans h1 h2
theorem cfLo_cmp : Stab.CmpB Try.prog 32 #[] encE cfLo := by
 intro x y W
 have h := levels_Pick_2.calls x.f0 x.f1 x.f2.f0 x.f2.f1 x.f2.f2 x.f3.f0 x.f3.f1 x.f3.f2 y.f0 y.f1 y.f2.f0 y.f2.f1 y.f2.f2 y.f3.f0 y.f3.f1 y.f3.f2 (cfLo x y) W (by unfold levels_Pick_2.f kinds_Compare_c.f; rfl)
 rw [Array.append_empty]
 exact h.mono fun e w' ⟨he, hb⟩ => ⟨he, hb⟩
/-- the parts of the next level that overlap, by their Lo -/
def nextV (l : List S38) (level : Int) (a : S38) : List S38 := Stab.ssort (ltOf cfLo) ((onV l level).filter (fun p => ovV p a))
def levels_Pick.f (l0 : List S38) : Option (Int × Int × List Int × Bool × Bool) :=
 if l0.length ≤ 100000000 then (match fullV l0 with
  | none => some (0, 0, [], false, false)
  | some k => (chosenV l0 k).bind fun top => (levels_span.f 1000000000 top).bind fun s =>
   some ((k : Int), (k : Int) + 1, (top ++ nextV l0 ((k : Int) + 1) ⟨s.1, s.2.1, ⟨s.2.2.1, s.2.2.2.1, s.2.2.2.2.1⟩, ⟨s.2.2.2.2.2.1, s.2.2.2.2.2.2.1, s.2.2.2.2.2.2.2⟩⟩).map (·.f0), !(l0.any (fun p => decide ((k : Int) + 1 < p.f1))), true)) else none
theorem fullV_le {l : List S38} {k : Nat} (h : fullV l = some k) : k ≤ 2 := by
 unfold fullV at h
 split at h
 ·cases h; omega
 ·split at h
  ·cases h; omega
  ·split at h
   ·cases h; omega
   ·cases h
theorem C_two {w : World} {b : Nat} {A1 A2 : Option Addr} {c1 c2 : Nat} {x y : List S38} (h : w.heap[b]? = some (.cells #[.slice A1 x.length c1, .slice A2 y.length c2] 22 (0, 0)))
  (h1 : x.length ≤ c1) (h2 : y.length ≤ c2) (g1 : Kd.C k38 w A1 x.length x) (g2 : Kd.C k38 w A2 y.length y) : Kd.C (Kd.slice 38 k38) w (some ⟨b, 0, none⟩) 2 [x, y] := by
 refine ⟨rfl, by omega, fun _ => ⟨_, rfl, fun j p hj => ?_⟩⟩
 have hj2 : j = 0 ∨ j = 1 := by
  have := (List.getElem?_eq_some_iff.1 hj).1
  simp at this; omega
 rcases hj2 with rfl | rfl
 ·simp at hj; subst hj
  refine ⟨[.slice A1 x.length c1], rfl, ⟨A1, c1, rfl, h1, g1⟩, fun i u hi => ?_⟩
  have hi0 : i = 0 := by have := (List.getElem?_eq_some_iff.1 hi).1; simp at this; omega
  subst hi0
  simp at hi; subst hi
  rw [show (Kd.slice 38 k38).sz = 1 from rfl, add_plain]
  exact (blk_cell h 0).trans rfl
 ·simp at hj; subst hj
  refine ⟨[.slice A2 y.length c2], rfl, ⟨A2, c2, rfl, h2, g2⟩, fun i u hi => ?_⟩
  have hi0 : i = 0 := by have := (List.getElem?_eq_some_iff.1 hi).1; simp at this; omega
  subst hi0
  simp at hi; subst hi
  rw [show (Kd.slice 38 k38).sz = 1 from rfl, add_plain]
  exact (blk_cell h 1).trans rfl
theorem chosenV_len {l : List S38} {a : Int} {r : List S38} (h : chosenV l a = some r) : r.length ≤ l.length + 1 := by
 unfold chosenV at h
 split at h
 ·split at h
  ·cases h
  ·cases h; simp
 ·cases h
  rw [(Stab.ssort_perm (lt := ltOf cfDn) _).length_eq]
  have := List.length_filter_le (fun p : S38 => p.f1 == a) l
  unfold onV; omega
theorem grown_then {w W W2 : World} {row r2 : Option Nat} (h : w.grownBy W row) (k : W.grownBy W2 r2) (hr : ∀ q, r2 = some q → w.heap.size ≤ q) : w.grownBy W2 row :=
 ⟨k.os.trans h.os, k.tape.trans h.tape, k.output.trans h.output, Nat.le_trans h.size k.size, fun i hi hn => (k.block i (Nat.lt_of_lt_of_le hi h.size) (fun e => by have := hr i e.symm; omega)).trans (h.block i hi hn)⟩
theorem grown_set {w W : World} {g : Nat} (h : w.grownBy W (some g)) (i : Nat) (v : Value) : w.grownBy (W.setCell ⟨g, i, none⟩ v) (some g) :=
 ⟨by simp [World.setCell]; exact h.os, by simp [World.setCell]; exact h.tape, by simp [World.setCell]; exact h.output, by simp [World.setCell]; exact h.size, fun q hq hn => (Below.heap_setCell W ⟨g, i, none⟩ v q (fun e => hn (by rw [e]))).trans (h.block q hq hn)⟩
set_option maxHeartbeats 8000000 in
set_option maxRecDepth 100000 in
theorem levels_Pick.calls (A0 : Option Addr) (c0 : Nat) (l0 : List S38) (r1 r2 : Int) (r3 : List Int) (r4 r5 : Bool) (w : World) (hr0 : Kd.C k38 w A0 l0.length l0) (hc0 : l0.length ≤ c0) (h : levels_Pick.f l0 = some (r1, r2, r3, r4, r5)) :
  Calls Try.prog 10 #[.slice A0 l0.length c0] w fun e w' => ∃ v2_ : Value, e = .returned (.tuple #[.agg #[.int .i64 r1, .int .i64 r2, v2_, .bool r4], .bool r5]) ∧ Kd.R (Kd.int .i64) 3 w' w.heap.size (fun _ => True) v2_ r3 ∧ Below w.heap.size w w' := by
 unfold levels_Pick.f at h
 split at h
 ·rename_i g0
  have B1 : Below w.heap.size w (w.alloc (.cells #[.int .i64 0, .int .i64 0, .slice none 0 0, .bool false] 27)) := below_alloc (Below.refl _ _) _
  have K2 := heap_alloc_new w (.cells #[.int .i64 0, .int .i64 0, .slice none 0 0, .bool false] 27)
  have hf := levels_full.calls A0 c0 l0 (fullR l0).1 (fullR l0).2 _ (Kd.C_below hr0 B1) hc0 (by unfold levels_full.f; rw [if_pos (by omega)])
  have HC0 := Aside0.mk hr0
  have HL0 := Aside0.mk hc0
  have G0 := Aside0.mk g0
  have HB1 := Aside0.mk B1
  have HK2 := Aside0.mk K2
  cases hfull : fullV l0 with
  | none =>
   rw [hfull] at h
   cases h
   rw [show fullR l0 = (0, false) by unfold fullR; rw [hfull]] at hf
   have hc := fun W (hB : Below (w.alloc (.cells #[.int .i64 0, .int .i64 0, .slice none 0 0, .bool false] 27)).heap.size (w.alloc (.cells #[.int .i64 0, .int .i64 0, .slice none 0 0, .bool false] 27)) W) => blk_below K2 hB
   have HC := Aside0.mk hc
   clear hr0 hc0 g0 B1 K2 hfull hc
   go_enter Try.func10, Try.ntmps10
   go_wp2_with fail
   refine hf.mono ?_
   rintro e w2 ⟨rfl, hB2⟩
   have hK := HC.out w2 hB2
   have q0 := (blk_cell hK 0).trans rfl
   have q1 := (blk_cell hK 1).trans rfl
   have q2 := (blk_cell hK 2).trans rfl
   have q3 := (blk_cell hK 3).trans rfl
   have f0 := blk_frozen hK 0
   have f1 := blk_frozen hK 1
   have f2 := blk_frozen hK 2
   have f3 := blk_frozen hK 3
   have HB2 := Aside0.mk (below_then HB1.out HB1.out.size hB2)
   have HKK := Aside0.mk hK
   clear hK hB2 hf
   go_wp2
   have HE : (((w2.setCell ⟨w.heap.size, 0, none⟩ (.int .i64 0)).setCell ⟨w.heap.size, 1, none⟩ (.int .i64 0)).setCell ⟨w.heap.size, 2, none⟩ (.slice none 0 0)).setCell ⟨w.heap.size, 3, none⟩ (.bool false) |>.heap[w.heap.size]? = some (.cells #[.int .i64 0, .int .i64 0, .slice none 0 0, .bool false] 27 (0, 0)) :=
    blk_set (blk_set (blk_set (blk_set HKK.out 0 _) 1 _) 2 _) 3 _
   refine bodyPost_ret (results_ct rfl _ _ w.heap.size 27 _ (0, 0) _ rfl HE Try.underlying27 rfl (by kernel_rfl)) rfl ⟨.slice none 0 0, rfl, Kd.R_nil _ _ _ _ _, ?_⟩
   exact below_set (below_set (below_set (below_set HB2.out (Nat.le_refl _)) (Nat.le_refl _)) (Nat.le_refl _)) (Nat.le_refl _)
  | some k =>
   rw [hfull] at h
   simp only at h
   obtain ⟨top, htop, h⟩ := Option.bind_eq_some_iff.1 h
   obtain ⟨⟨s1, s2, s3, s4, s5, s6, s7, s8⟩, hsp, h⟩ := Option.bind_eq_some_iff.1 h
   have hres := Option.some.inj h
   clear h
   have hk2 := fullV_le hfull
   rw [show fullR l0 = ((k : Int), true) by unfold fullR; rw [hfull]] at hf
   simp only at hf hres
   have HK := Aside0.mk (fun W (hB : Below (w.alloc (.cells #[.int .i64 0, .int .i64 0, .slice none 0 0, .bool false] 27)).heap.size (w.alloc (.cells #[.int .i64 0, .int .i64 0, .slice none 0 0, .bool false] 27)) W) => blk_below K2 hB)
   have HTOP := Aside0.mk htop
   have HTL := Aside0.mk (show top.length ≤ 1000000000 by have := chosenV_len htop; omega)
   have HSP := Aside0.mk hsp
   have HRES := Aside0.mk hres
   have HF := Aside0.mk hf
   have hs1 : (w.alloc (.cells #[.int .i64 0, .int .i64 0, .slice none 0 0, .bool false] 27)).heap.size = w.heap.size + 1 := by simp
   have HS1 := Aside0.mk hs1
   clear hr0 hc0 B1 K2 hfull htop hsp hres hf hs1
   have hkz : (0 : Int) ≤ (k : Int) := by omega
   have hkz2 : (k : Int) ≤ 2 := by omega
   go_enter Try.func10, Try.ntmps10
   go_wp2_with fail
   refine HF.out.mono ?_
   rintro e w2 ⟨rfl, hB2⟩
   have HB2 := Aside0.mk (below_then HB1.out HB1.out.size hB2)
   have HKP := Aside0.mk (HK.out w2 hB2)
   have hch := levels_chosen.calls A0 c0 l0 (k : Int) top w2 (Kd.C_below HC0.out HB2.out) HL0.out (by unfold levels_chosen.f; rw [if_pos (by have := G0.out; omega)]; exact HTOP.out)
   clear hB2 HF HK
   go_wp2_with fail
   refine hch.mono ?_
   rintro e w3 ⟨vt, rfl, hRt, hB3⟩
   obtain ⟨At, ct, rfl⟩ := Kd.R_slice hRt
   have HB3 := Aside0.mk (below_then HB2.out HB2.out.size hB3)
   have HKP3 := Aside0.mk (blk_below HKP.out hB3)
   have HCt := Aside0.mk (Kd.R_reads' hRt).2.2
   have HLt := Aside0.mk (Kd.R_reads' hRt).2.1
   have hspn := levels_span.calls 1000000000 At ct top s1 s2 s3 s4 s5 s6 s7 s8 w3 HCt.out HLt.out HSP.out
   clear hB3 hRt hch HKP HB2
   go_wp2_with fail
   refine hspn.mono ?_
   rintro e w4 ⟨rfl, hB4⟩
   have HB4 := Aside0.mk hB4
   have b5 : Below w3.heap.size w3 (w4.alloc (.cells #[.int .i64 s1, .int .i64 s2, .bool s3, .int .i64 s4, .string s5, .bool s6, .int .i64 s7, .string s8] 38)) := below_alloc hB4 _
   have HB5 := Aside0.mk b5
   have HKA := Aside0.mk (heap_alloc_new w4 (.cells #[.int .i64 s1, .int .i64 s2, .bool s3, .int .i64 s4, .string s5, .bool s6, .int .i64 s7, .string s8] 38))
   have hon := levels_on.calls A0 c0 l0 ((k : Int) + 1) (onV l0 ((k : Int) + 1)) (w4.alloc (.cells #[.int .i64 s1, .int .i64 s2, .bool s3, .int .i64 s4, .string s5, .bool s6, .int .i64 s7, .string s8] 38)) (Kd.C_below HC0.out (below_then HB3.out HB3.out.size b5)) HL0.out (by unfold levels_on.f; rw [if_pos (by have := G0.out; omega)]; rfl)
   have hs5 : (w4.alloc (.cells #[.int .i64 s1, .int .i64 s2, .bool s3, .int .i64 s4, .string s5, .bool s6, .int .i64 s7, .string s8] 38)).heap.size = w4.heap.size + 1 := by simp
   have HS5 := Aside0.mk hs5
   clear hB4 b5 hspn hs5
   go_wp2_with fail
   refine hon.mono ?_
   rintro e w6 ⟨vn, rfl, hR6, hB6⟩
   obtain ⟨a, ha⟩ : ∃ a : S38, a = ⟨s1, s2, ⟨s3, s4, s5⟩, ⟨s6, s7, s8⟩⟩ := ⟨_, rfl⟩
   have HA := Aside0.mk ha
   have HOB6 := Aside0.mk (show ∀ k, vn.ownBlock = some k → w4.heap.size + 1 ≤ k from fun k hk => by have := Kd.R_base hR6 k hk; rw [HS5.out] at this; exact this)
   have hS6 : w4.heap.size + 1 ≤ w6.heap.size := by have := hB6.size; rw [HS5.out] at this; exact this
   have HS6 := Aside0.mk hS6
   have HKA6 := Aside0.mk (blk_below HKA.out hB6)
   have hlen6 : (onV l0 ((k : Int) + 1)).length ≤ 100000000 := Nat.le_trans (List.length_filter_le _ _) G0.out
   have hdel := DeleteFunc_T (fun p => !ovV p a) 29 #[.pointer (some ⟨w4.heap.size, 0, none⟩)] (enters_of Try.func29 (by kernel_rfl) rfl) _ _ vn (onV l0 ((k : Int) + 1)) w6 hR6 (by omega) (fun W x hW => Pick_1.calls w4.heap.size a x W (by
    rw [HA.out]
    exact (hW.block w4.heap.size (by have := HS6.out; omega) (fun hk => by have := HOB6.out _ hk.symm; omega)).trans HKA6.out))
   have HLEN6 := Aside0.mk hlen6
   have HB6 := Aside0.mk (below_then HB5.out HB5.out.size hB6)
   clear hR6 hB6 hon ha hS6 hlen6
   go_wp2_with fail
   refine hdel.mono ?_
   rintro e w7 ⟨v7, rfl, hv7, hR7, hg7⟩
   have hfl : ((onV l0 ((k : Int) + 1)).filter (fun x => !(!ovV x a))) = (onV l0 ((k : Int) + 1)).filter (fun p => ovV p a) := List.filter_congr (fun x _ => by simp)
   rw [hfl] at hR7
   have hlen7 : ((onV l0 ((k : Int) + 1)).filter (fun p => ovV p a)).length ≤ 100000000 := Nat.le_trans (List.length_filter_le _ _) HLEN6.out
   have HB7 := Aside0.mk (pw_below_grown HB6.out _ HB6.out.size hg7 (fun q hq => by have := HOB6.out q hq; have h2 := HB5.out.size; rw [HS5.out] at h2; omega))
   have HOB7 := Aside0.mk (show ∀ q, v7.ownBlock = some q → w3.heap.size ≤ q from fun q hq => by rw [hv7] at hq; have := HOB6.out q hq; have h2 := HB5.out.size; rw [HS5.out] at h2; omega)
   have hsort := sortP cfLo 32 (enters_of Try.func32 (by kernel_rfl) rfl) cfLo_cmp cfLo_swo _ v7 _ _ w7 hR7 (by omega)
   rw [show Stab.ssort (ltOf cfLo) ((onV l0 ((k : Int) + 1)).filter (fun p => ovV p a)) = nextV l0 ((k : Int) + 1) a from rfl] at hsort
   have hlen8 : (nextV l0 ((k : Int) + 1) a).length ≤ 100000000 := by
    unfold nextV
    rw [(Stab.ssort_perm (lt := ltOf cfLo) _).length_eq]; exact hlen7
   have HLEN8 := Aside0.mk hlen8
   clear hR7 hg7 hdel hfl hlen7 hlen8 hv7
   go_wp2_with fail
   refine hsort.mono ?_
   rintro e w8 ⟨rfl, hR8, hg8⟩
   have HB8 := Aside0.mk (pw_below_grown HB7.out _ HB7.out.size hg8 (fun q hq => HOB7.out q hq))
   obtain ⟨An, cn, rfl⟩ := Kd.R_slice hR8
   have HCn := Aside0.mk (Kd.R_reads' hR8).2.2
   have HLn := Aside0.mk (Kd.R_reads' hR8).2.1
   clear hg8 hR8 hsort
   have HRES2 := Aside0.mk (show ((k : Int), (k : Int) + 1, (top ++ nextV l0 ((k : Int) + 1) a).map (·.f0), !(l0.any (fun p => decide ((k : Int) + 1 < p.f1))), true) = (r1, r2, r3, r4, r5) by rw [HA.out]; exact HRES.out)
   clear HRES
   generalize hnx : nextV l0 ((k : Int) + 1) a = nx at HCn HLn HLEN8 HRES2
   have HCt8 := Aside0.mk (Kd.C_below HCt.out HB8.out)
   have HKP8 := Aside0.mk (blk_below HKP3.out HB8.out)
   have HBW8 := Aside0.mk (below_then HB3.out HB3.out.size HB8.out)
   have HSL8 := Aside0.mk (show w.heap.size < w8.heap.size by have := HB3.out.size; have := HB8.out.size; have := blk_lt HKP8.out; omega)
   clear hnx HA HKA HKA6 HOB6 HOB7 HB4 HB5 HB6 HB7 HS5 HS6 HLEN6 HCt HKP3 HSP HTOP
   have b10 : Below w8.heap.size w8 ((w8.alloc (.cells #[.int .i64 k, .int .i64 ((k : Int) + 1), .slice none 0 0, .bool false] 27)).alloc (.cells #[.slice At top.length ct, .slice An nx.length cn] 22)) := below_alloc (below_alloc (Below.refl _ _) _) _
   have hs9 : (w8.alloc (.cells #[.int .i64 k, .int .i64 ((k : Int) + 1), .slice none 0 0, .bool false] 27)).heap.size = w8.heap.size + 1 := by simp
   have k10 := heap_alloc_new (w8.alloc (.cells #[.int .i64 k, .int .i64 ((k : Int) + 1), .slice none 0 0, .bool false] 27)) (.cells #[.slice At top.length ct, .slice An nx.length cn] 22)
   rw [hs9] at k10
   have kx10 := blk_alloc (heap_alloc_new w8 (.cells #[.int .i64 k, .int .i64 ((k : Int) + 1), .slice none 0 0, .bool false] 27)) (.cells #[.slice At top.length ct, .slice An nx.length cn] 22)
   have hcat := concatP.calls (some ⟨w8.heap.size + 1, 0, none⟩) 2 [top, nx] (top ++ nx) _ (C_two k10 HLt.out HLn.out (Kd.C_below HCt8.out b10) (Kd.C_below HCn.out b10)) (Nat.le_refl _) (by
    unfold concatP.f
    rw [show ([top, nx] : List (List S38)).flatten = top ++ nx by simp, if_pos (by rw [List.length_append]; have := HTL.out; have := HLEN8.out; omega)])
   have HKX10 := Aside0.mk kx10
   have HB10 := Aside0.mk b10
   have hz10 : w8.heap.size + 2 ≤ ((w8.alloc (.cells #[.int .i64 k, .int .i64 ((k : Int) + 1), .slice none 0 0, .bool false] 27)).alloc (.cells #[.slice At top.length ct, .slice An nx.length cn] 22)).heap.size := by simp
   have HZ10 := Aside0.mk hz10
   clear b10 k10 kx10 hs9 hz10
   go_wp2_with fail
   refine hcat.mono ?_
   rintro e wC ⟨vc, rfl, hRc, hBc⟩
   obtain ⟨Ac, cc, rfl⟩ := Kd.R_slice hRc
   have HKX := Aside0.mk (blk_below HKX10.out hBc)
   have HBC := Aside0.mk (below_then HB10.out HB10.out.size hBc)
   have hgx : w8.heap.size + 2 ≤ wC.heap.size := Nat.le_trans HZ10.out hBc.size
   have HGX := Aside0.mk hgx
   have HRC := Aside0.mk (Kd.R_mono (ok' := fun q => q ≠ w8.heap.size) (Kd.R_bound hRc) (fun q hq => by have := HZ10.out; have := hq.2.1; omega))
   have hcl : (top ++ nx).length ≤ 1200000000 := by rw [List.length_append]; have := HTL.out; have := HLEN8.out; omega
   have HCL := Aside0.mk hcl
   have HWC := Aside0.mk (show wC.grownBy wC (some w8.heap.size) from ⟨rfl, rfl, rfl, Nat.le_refl _, fun _ _ _ => rfl⟩)
   clear hRc hBc hcat HB10 HKX10 HZ10 hgx
   generalize hcatg : top ++ nx = cat at HRC hcl HCL HRES2
   clear hcatg
   have hcl63 : (cat.length : Int) ≤ 9223372036854775807 := by omega
   go_wp2
   go_loopg [11, 42] cat.length (fun kx _ s42 wr => ∃ (n : Nat) (v : Value), s42 = .int .i64 n ∧ n ≤ cat.length ∧ cat.length - n ≤ kx ∧ Aside0 (wC.grownBy wr (some w8.heap.size)) ∧ Aside0 (wr.heap[w8.heap.size]? = some (.cells #[.int .i64 k, .int .i64 ((k : Int) + 1), v, .bool false] 27 (0, 0))) ∧ Aside0 (Kd.R (Kd.int .i64) 3 wr wC.heap.size (fun _ => True) v ((cat.take n).map (·.f0))))
   case atStart => exact ⟨0, .slice none 0 0, rfl, Nat.zero_le _, by omega, HWC, HKX, ⟨Kd.R_nil _ _ _ _ _⟩⟩
   case round =>
    clear HWC HKX
    obtain ⟨n, v, rfl, hn, hkx, HG, HKX, HI⟩ := hrel
    by_cases hlt : n < cat.length
    ·have hltz : (n : Int) < (cat.length : Int) := by omega
     have hnz : (0 : Int) ≤ (n : Int) := by omega
     have hRr := Kd.R_step HRC.out (w1 := wr) (fun q hq hlt => HG.out.block q hlt (fun e => hq (by injection e)))
     obtain ⟨ad, e0, x0, x1, x2, x3, x4, x5, x6, x7⟩ := at_T38 (Kd.R_reads' hRr).2.2 (n : Int) hnz hltz
     subst e0
     simp only [Int.toNat_natCast] at x0 x1 x2 x3 x4 x5 x6 x7
     have hxd : rd_T38 cat n = cat[n] := by simp [rd_T38, List.getD_eq_getElem?_getD, List.getElem?_eq_getElem hlt]
     have HSN := Aside0.mk (show (cat.take (n + 1)).map (·.f0) = (cat.take n).map (·.f0) ++ [(rd_T38 cat n).f0] by rw [hxd, List.take_succ_eq_append_getElem hlt, List.map_append]; rfl)
     generalize rd_T38 cat n = x at x0 x1 x2 x3 x4 x5 x6 x7 HSN
     generalize x.f0 = y0 at x0 HSN; generalize x.f1 = y1 at x1; generalize x.f2.f0 = y2 at x2; generalize x.f2.f1 = y3 at x3; generalize x.f2.f2 = y4 at x4; generalize x.f3.f0 = y5 at x5; generalize x.f3.f1 = y6 at x6; generalize x.f3.f2 = y7 at x7
     have hKx1 := blk_alloc HKX.out (.cells #[.int .i64 y0, .int .i64 y1, .bool y2, .int .i64 y3, .string y4, .bool y5, .int .i64 y6, .string y7] 38)
     have hlen : ((cat.take n).map (·.f0)).length = n := by rw [List.length_map, List.length_take]; omega
     obtain ⟨Av, cv, hv⟩ := Kd.R_slice HI.out
     rw [hlen] at hv
     subst hv
     clear hlen
     have hx2 := (blk_cell hKx1 2).trans rfl
     have HKx1 := Aside0.mk hKx1
     have HI1 := Aside0.mk (Kd.R_below HI.out (below_alloc (Below.refl wr.heap.size wr) (.cells #[.int .i64 y0, .int .i64 y1, .bool y2, .int .i64 y3, .string y4, .bool y5, .int .i64 y6, .string y7] 38)))
     clear hKx1 hRr hxd
     have HWS := Aside0.mk (show wC.heap.size ≤ (wr.alloc (.cells #[.int .i64 y0, .int .i64 y1, .bool y2, .int .i64 y3, .string y4, .bool y5, .int .i64 y6, .string y7] 38)).heap.size from Nat.le_trans HG.out.size (by simp))
     have HLM := Aside0.mk (show (((cat.take n).map (·.f0)).length + 1) * 8 ≤ 140737488355328 by rw [List.length_map, List.length_take]; have := HCL.out; omega)
     have HLE := Aside0.mk (show ((cat.take n).map (·.f0)).length = n by rw [List.length_map, List.length_take]; omega)
     generalize (cat.take n).map (·.f0) = ids at HI1 HLM HSN HLE
     go_wp2_with ((with_reducible refine gate_builtin (b := .append) (xs := #[.tmp 47, .tmp 50]) rfl ?_); at_builtin; refine Kd.R_append (Kd.int .i64) (w0 := wr.alloc (.cells #[.int .i64 y0, .int .i64 y1, .bool y2, .int .i64 y3, .string y4, .bool y5, .int .i64 y6, .string y7] 38)) wC.heap.size rfl (.tmp 47) (.tmp 50) 25 3 (.int .i64 0) 8 rfl Try.underlying25 info3 rfl (by decide) (by omega) _ ids y0 [.int .i64 y0] (fun _ => True) (fun _ => False) rfl (by first | (go_simp; done) | (go_simp; rfl)) ?aP (fun _ hk => hk.elim) ?aF ?aO ?aB ?aS ?aL ?_; (case aP => rfl); (case aF => exact fun _ _ => trivial); (case aO => exact HI1.out); (case aB => exact ⟨rfl, rfl, rfl, Nat.le_refl _, fun _ _ => rfl⟩); (case aS => exact HWS.out); (case aL => exact HLM.out); intro v1 w1 ho hb hg hat; obtain ⟨A1, c1, hv1⟩ := Kd.R_slice ho; rw [List.length_append, List.length_singleton, HLE.out] at hv1; subst hv1; have HO := Aside0.mk ho; have HGR := Aside0.mk hg; have hK1 := blk_grown HKx1.out hg (fun e => by have := Kd.R_base HI1.out _ e.symm; have := HGX.out; omega); have HK1 := Aside0.mk hK1; have z2 := (blk_cell hK1 2).trans rfl; have zf := blk_frozen hK1 2; clear hK1 hx2 ho hb hg hat x0 x1 x2 x3 x4 x5 x6 x7)
     go_roundg (cat.length - (n + 1))
     case measure => omega
     case rel =>
      refine ⟨n + 1, .slice A1 (n + 1) c1, by go_num, by omega, by omega, ?_, ?_, ?_⟩
      rotate_left
      ·exact ⟨blk_set HK1.out 2 _⟩
      ·refine ⟨?_⟩
       rw [HSN.out]
       exact Kd.R_step (Kd.R_mono (ok' := fun q => q ≠ w8.heap.size) (Kd.R_bound HO.out) (fun q hq => by have := HGX.out; have := hq.2.1; omega)) (fun q hq hlt => Below.heap_setCell _ _ _ _ hq) |> fun h => Kd.R_mono h (fun _ _ => trivial)
      ·refine ⟨grown_set (grown_then (grown_then HG.out (World.grownBy_alloc wr _ none) (fun q hq => by cases hq)) HGR.out (fun q hq => Kd.R_base HI1.out q hq)) 2 _⟩
    ·have hltz : ¬ (n : Int) < (cat.length : Int) := by omega
     obtain rfl : n = cat.length := by omega
     have hlen : ((cat.take cat.length).map (·.f0)).length = cat.length := by rw [List.length_map, List.length_take]; omega
     obtain ⟨Av, cv, hv⟩ := Kd.R_slice HI.out
     rw [hlen] at hv
     subst hv
     clear hlen
     have HWR := Aside0.mk (pw_below_grown (below_then HBW8.out HBW8.out.size HBC.out) _ (below_then HBW8.out HBW8.out.size HBC.out).size HG.out (fun q hq => by cases hq; exact HBW8.out.size))
     have HKPR := Aside0.mk ((HG.out.block w.heap.size (by have := HGX.out; have := HBW8.out.size; omega) (fun e => by have := HSL8.out; have := Option.some.inj e; omega)).trans (blk_below HKP8.out HBC.out))
     have hcon := ContainsFunc_T (fun p => decide ((k : Int) + 1 < p.f1)) 36 #[.pointer (some ⟨w8.heap.size, 0, none⟩)] (enters_of Try.func36 (by kernel_rfl) rfl) A0 c0 l0 wr (Kd.C_below HC0.out HWR.out) (fun W x hB => Pick_3.calls w8.heap.size _ _ _ ((k : Int) + 1) x W (blk_below HKX.out hB))
     generalize hany : l0.any (fun p => decide ((k : Int) + 1 < p.f1)) = any at hcon HRES2
     go_wp2_with fail
     refine hcon.mono ?_
     rintro e wz ⟨rfl, hBz⟩
     have hKz := blk_below HKX.out hBz
     have zf3 := blk_frozen hKz 3
     have zc3 := (blk_cell hKz 3).trans rfl
     have hKs : (wz.setCell ⟨w8.heap.size, 3, none⟩ (.bool (!any))).heap[w8.heap.size]? = some (.cells #[.int .i64 k, .int .i64 ((k : Int) + 1), .slice Av cat.length cv, .bool (!any)] 27 (0, 0)) := blk_set hKz 3 _
     have hKPs : (wz.setCell ⟨w8.heap.size, 3, none⟩ (.bool (!any))).heap[w.heap.size]? = some (.cells #[.int .i64 0, .int .i64 0, .slice none 0 0, .bool false] 27 (0, 0)) := (Below.heap_setCell _ _ _ _ (Nat.ne_of_lt HSL8.out)).trans (blk_below HKPR.out hBz)
     have q0 := (blk_cell hKs 0).trans rfl
     have q1 := (blk_cell hKs 1).trans rfl
     have q2 := (blk_cell hKs 2).trans rfl
     have q3 := (blk_cell hKs 3).trans rfl
     have p0 := (blk_cell hKPs 0).trans rfl
     have p1 := (blk_cell hKPs 1).trans rfl
     have p2 := (blk_cell hKPs 2).trans rfl
     have p3 := (blk_cell hKPs 3).trans rfl
     have f0 := blk_frozen hKPs 0
     have f1 := blk_frozen hKPs 1
     have f2 := blk_frozen hKPs 2
     have f3 := blk_frozen hKPs 3
     have HWZ : Aside0 (Below w.heap.size w (wz.setCell ⟨w8.heap.size, 3, none⟩ (.bool (!any)))) := ⟨below_set (below_then HWR.out HWR.out.size hBz) (Nat.le_of_lt HSL8.out)⟩
     have HRZ := Aside0.mk (Kd.R_mono (ok' := fun q => q ≠ w8.heap.size ∧ q ≠ w.heap.size) (Kd.R_bound (Kd.R_below HI.out hBz)) (fun q hq => by have := HGX.out; have := HSL8.out; have := hq.2.1; omega))
     have HKPS := Aside0.mk hKPs
     clear hKz hKs hKPs hBz hcon HKX HI HG HRC HKPR HWR HC0 HB1 HK2 HB3 HB8 HCn HLn HCt8 HKP8 HBW8 HBC
     go_wp2
     have HE : ((((wz.setCell ⟨w8.heap.size, 3, none⟩ (.bool (!any))).setCell ⟨w.heap.size, 0, none⟩ (.int .i64 k)).setCell ⟨w.heap.size, 1, none⟩ (.int .i64 ((k : Int) + 1))).setCell ⟨w.heap.size, 2, none⟩ (.slice Av cat.length cv)).setCell ⟨w.heap.size, 3, none⟩ (.bool (!any)) |>.heap[w.heap.size]? = some (.cells #[.int .i64 k, .int .i64 ((k : Int) + 1), .slice Av cat.length cv, .bool (!any)] 27 (0, 0)) :=
      blk_set (blk_set (blk_set (blk_set HKPS.out 0 _) 1 _) 2 _) 3 _
     have hres := HRES2.out
     injection hres with e1 hres
     injection hres with e2 hres
     injection hres with e3 hres
     injection hres with e4 e5
     subst e1 e2 e3 e4 e5
     have HRF := HRZ.out
     rw [List.take_length] at HRF
     refine bodyPost_ret (results_ct rfl _ _ w.heap.size 27 _ (0, 0) _ rfl HE Try.underlying27 rfl (by kernel_rfl)) rfl ⟨.slice Av cat.length cv, rfl, ?_, ?_⟩
     ·refine Kd.R_lower (Kd.R_mono (Kd.R_step HRF (fun q hq hlt => ?_)) (fun _ _ => trivial)) (show w.heap.size ≤ wC.heap.size by have := HGX.out; have := HSL8.out; omega)
      exact (Below.heap_setCell _ _ _ _ hq.2).trans ((Below.heap_setCell _ _ _ _ hq.2).trans ((Below.heap_setCell _ _ _ _ hq.2).trans ((Below.heap_setCell _ _ _ _ hq.2).trans (Below.heap_setCell _ _ _ _ hq.1))))
     ·exact below_set (below_set (below_set (below_set HWZ.out (Nat.le_refl _)) (Nat.le_refl _)) (Nat.le_refl _)) (Nat.le_refl _)
 ·cases h


end Go.Proofs.Ytcbgcmaioicdbaa.Pr
