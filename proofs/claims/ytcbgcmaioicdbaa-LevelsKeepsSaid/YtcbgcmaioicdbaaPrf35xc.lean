-- printed by xprint.py
import Derived.Test.YtcbgcmaioicdbaaPr0
import Derived.Test.YtcbgcmaioicdbaaPrf33
import Derived.Test.YtcbgcmaioicdbaaPrf30
import Derived.Test.YtcbgcmaioicdbaaDel
import Derived.Test.YtcbgcmaioicdbaaThy
namespace Go.Proofs.Ytcbgcmaioicdbaa.Pr
open Go.RowKit Go.Proofs.YtcbgcmaioicdbaaW PrintWords PrintLast PrintMore
set_option linter.unusedVariables false
set_option linter.unusedSimpArgs false

/-! ### containsDisj: function 35 -/
--@label c
--@import Derived.Test.YtcbgcmaioicdbaaDel
--@import Derived.Test.YtcbgcmaioicdbaaThy
/-- do two parts overlap? -/
def ovV (a b : S38) : Bool := !Thy.less a.f3.f0 a.f3.f1 a.f3.f2 b.f2.f0 b.f2.f1 b.f2.f2 && !Thy.less b.f3.f0 b.f3.f1 b.f3.f2 a.f2.f0 a.f2.f1 a.f2.f2
theorem levels_overlap.is (a b : S38) : levels_overlap.f a.f0 a.f1 a.f2.f0 a.f2.f1 a.f2.f2 a.f3.f0 a.f3.f1 a.f3.f2 b.f0 b.f1 b.f2.f0 b.f2.f1 b.f2.f2 b.f3.f0 b.f3.f1 b.f3.f2 = some (ovV a b) := by
 simp only [levels_overlap.f, kinds_Compare_c.f, Option.bind_some, ovV]
 have h1 : (Thy.cmpV a.f3.f0 a.f3.f1 a.f3.f2 b.f2.f0 b.f2.f1 b.f2.f2 ≥ 0) ↔ Thy.less a.f3.f0 a.f3.f1 a.f3.f2 b.f2.f0 b.f2.f1 b.f2.f2 = false := by
  rw [← Bool.not_eq_true, ← Thy.cmpV_lt]; omega
 have h2 : (Thy.cmpV b.f3.f0 b.f3.f1 b.f3.f2 a.f2.f0 a.f2.f1 a.f2.f2 ≥ 0) ↔ Thy.less b.f3.f0 b.f3.f1 b.f3.f2 a.f2.f0 a.f2.f1 a.f2.f2 = false := by
  rw [← Bool.not_eq_true, ← Thy.cmpV_lt]; omega
 by_cases c1 : Thy.less a.f3.f0 a.f3.f1 a.f3.f2 b.f2.f0 b.f2.f1 b.f2.f2 = false
 ·rw [if_pos (h1.2 c1), c1]
  cases c2 : Thy.less b.f3.f0 b.f3.f1 b.f3.f2 a.f2.f0 a.f2.f1 a.f2.f2 with
  | false =>
   rw [decide_eq_true (h2.2 c2)]; rfl
  | true =>
   rw [decide_eq_false (fun h => by rw [h2.1 h] at c2; cases c2)]; rfl
 ·rw [if_neg (fun h => c1 (h1.1 h))]
  have c1' : Thy.less a.f3.f0 a.f3.f1 a.f3.f2 b.f2.f0 b.f2.f1 b.f2.f2 = true := by simpa using c1
  rw [c1']; rfl
def containsDisj.f (l0 : List S38) (a0 : Int) (a1 : Int) (a2 : Bool) (a3 : Int) (a4 : ByteArray) (a5 : Bool) (a6 : Int) (a7 : ByteArray) : Option Bool := some (l0.any (fun b => a1 == b.f1 && ovV ⟨a0, a1, ⟨a2, a3, a4⟩, ⟨a5, a6, a7⟩⟩ b))
set_option maxHeartbeats 4000000 in
set_option maxRecDepth 100000 in
theorem Disjoint_1.calls (gb : Nat) (a x : S38) (w : World) (hb : w.heap[gb]? = some (.cells #[.int .i64 a.f0, .int .i64 a.f1, .bool a.f2.f0, .int .i64 a.f2.f1, .string a.f2.f2, .bool a.f3.f0, .int .i64 a.f3.f1, .string a.f3.f2] 38 (0, 0))) :
  Calls Try.prog 41 (#[.agg #[.int .i64 x.f0, .int .i64 x.f1, .bool x.f2.f0, .int .i64 x.f2.f1, .string x.f2.f2, .bool x.f3.f0, .int .i64 x.f3.f1, .string x.f3.f2]] ++ #[.pointer (some ⟨gb, 0, none⟩)]) w fun e w' => e = .returned (.bool (a.f1 == x.f1 && ovV a x)) ∧ Below w.heap.size w w' := by
 have hov := fun W => levels_overlap.calls a.f0 a.f1 a.f2.f0 a.f2.f1 a.f2.f2 a.f3.f0 a.f3.f1 a.f3.f2 x.f0 x.f1 x.f2.f0 x.f2.f1 x.f2.f2 x.f3.f0 x.f3.f1 x.f3.f2 (ovV a x) W (levels_overlap.is a x)
 have hK := blk_alloc hb (.cells #[.int .i64 x.f0, .int .i64 x.f1, .bool x.f2.f0, .int .i64 x.f2.f1, .string x.f2.f2, .bool x.f3.f0, .int .i64 x.f3.f1, .string x.f3.f2] 38)
 have hc0 := (blk_cell hK 0).trans rfl
 have hc1 := (blk_cell hK 1).trans rfl
 have hc2 := (blk_cell hK 2).trans rfl
 have hc3 := (blk_cell hK 3).trans rfl
 have hc4 := (blk_cell hK 4).trans rfl
 have hc5 := (blk_cell hK 5).trans rfl
 have hc6 := (blk_cell hK 6).trans rfl
 have hc7 := (blk_cell hK 7).trans rfl
 clear hb hK
 generalize ovV a x = o at hov ⊢
 generalize x.f0 = y0 at *; generalize x.f1 = y1 at *; generalize x.f2.f0 = y2 at *; generalize x.f2.f1 = y3 at *; generalize x.f2.f2 = y4 at *; generalize x.f3.f0 = y5 at *; generalize x.f3.f1 = y6 at *; generalize x.f3.f2 = y7 at *
 generalize a.f0 = z0 at *; generalize a.f1 = z1 at *; generalize a.f2.f0 = z2 at *; generalize a.f2.f1 = z3 at *; generalize a.f2.f2 = z4 at *; generalize a.f3.f0 = z5 at *; generalize a.f3.f1 = z6 at *; generalize a.f3.f2 = z7 at *
 show Calls Try.prog 41 #[.agg #[.int .i64 y0, .int .i64 y1, .bool y2, .int .i64 y3, .string y4, .bool y5, .int .i64 y6, .string y7], .pointer (some ⟨gb, 0, none⟩)] w _
 have HA : Below w.heap.size w (w.alloc (.cells #[.int .i64 y0, .int .i64 y1, .bool y2, .int .i64 y3, .string y4, .bool y5, .int .i64 y6, .string y7] 38)) := below_alloc (Below.refl _ _) _
 have HAA := Aside0.mk HA
 clear HA
 by_cases hq : z1 = y1
 ·subst hq
  go_enter Try.func41, Try.ntmps41
  go_wp2_with (go_at_call 30; refine (hov _).mono ?_; rintro e w' ⟨rfl, hb'⟩)
  go_ret
  exact ⟨by simp, below_then HAA.out HAA.out.size hb'⟩
 ·have hqb : (z1 == y1) = false := beq_eq_false_iff_ne.2 hq
  go_enter Try.func41, Try.ntmps41
  go_wp2
  go_ret
  exact ⟨by simp [hqb], HAA.out⟩
theorem containsDisj.calls (A0 : Option Addr) (c0 : Nat) (l0 : List S38) (gb : Nat) (a0 : Int) (a1 : Int) (a2 : Bool) (a3 : Int) (a4 : ByteArray) (a5 : Bool) (a6 : Int) (a7 : ByteArray) (b : Bool) (w : World) (hr0 : Kd.C k38 w A0 l0.length l0) (hc0 : l0.length ≤ c0)
  (hb : w.heap[gb]? = some (.cells #[.int .i64 a0, .int .i64 a1, .bool a2, .int .i64 a3, .string a4, .bool a5, .int .i64 a6, .string a7] 38 (0, 0))) (h : containsDisj.f l0 a0 a1 a2 a3 a4 a5 a6 a7 = some b) :
  Calls Try.prog 35 #[.slice A0 l0.length c0, .func (.func 41) #[] #[.pointer (some ⟨gb, 0, none⟩)]] w fun e w' => e = .returned (.bool b) ∧ Below w.heap.size w w' := by
 obtain rfl := Option.some.inj h
 exact ContainsFunc_T _ 41 #[.pointer (some ⟨gb, 0, none⟩)] (enters_of Try.func41 (by kernel_rfl) rfl) A0 c0 l0 w hr0 (fun W x hB => Disjoint_1.calls gb ⟨a0, a1, ⟨a2, a3, a4⟩, ⟨a5, a6, a7⟩⟩ x W (blk_below hb hB))


end Go.Proofs.Ytcbgcmaioicdbaa.Pr
