-- printed by xprint.py
import Derived.Test.YtcbgcmaioicdbaaPr0
import Derived.Test.YtcbgcmaioicdbaaPrf49
import Derived.Test.YtcbgcmaioicdbaaDel
namespace Go.Proofs.Ytcbgcmaioicdbaa.Pr
open Go.RowKit Go.Proofs.YtcbgcmaioicdbaaW PrintWords PrintLast PrintMore
set_option linter.unusedVariables false
set_option linter.unusedSimpArgs false

/-! ### levels_on: function 28 -/
--@import Derived.Test.YtcbgcmaioicdbaaDel
def levels_on.f (l0 : List S38) (a1 : Int) : Option (List S38) := if l0.length ≤ 1759218604441 then some (l0.filter (fun p => p.f1 == a1)) else none
set_option maxHeartbeats 4000000 in
set_option maxRecDepth 100000 in
theorem on_1.calls (gb : Nat) (a1 : Int) (x : S38) (w : World) (hb : w.heap[gb]? = some (.cells #[.int .i64 a1] 3 (0, 0))) :
  Calls Try.prog 50 (#[.agg #[.int .i64 x.f0, .int .i64 x.f1, .bool x.f2.f0, .int .i64 x.f2.f1, .string x.f2.f2, .bool x.f3.f0, .int .i64 x.f3.f1, .string x.f3.f2]] ++ #[.pointer (some ⟨gb, 0, none⟩)]) w fun e w' => e = .returned (.bool (x.f1 != a1)) ∧ Below w.heap.size w w' := by
 have hc0 : w.cell? ⟨gb, 0, none⟩ = some (.int .i64 a1) := (blk_cell hb 0).trans rfl
 clear hb
 generalize x.f0 = y0; generalize x.f1 = y1; generalize x.f2.f0 = y2; generalize x.f2.f1 = y3; generalize x.f2.f2 = y4; generalize x.f3.f0 = y5; generalize x.f3.f1 = y6; generalize x.f3.f2 = y7
 show Calls Try.prog 50 #[.agg #[.int .i64 y0, .int .i64 y1, .bool y2, .int .i64 y3, .string y4, .bool y5, .int .i64 y6, .string y7], .pointer (some ⟨gb, 0, none⟩)] w _
 have hc1 : (w.alloc (.cells #[.int .i64 y0, .int .i64 y1, .bool y2, .int .i64 y3, .string y4, .bool y5, .int .i64 y6, .string y7] 38)).cell? ⟨gb, 0, none⟩ = some (.int .i64 a1) := pw_cell_below (below_alloc (Below.refl _ _) _) hc0
 clear hc0
 go_enter Try.func50, Try.ntmps50
 go_wp2
 go_ret
 exact ⟨rfl, below_alloc (Below.refl _ _) _⟩
set_option maxHeartbeats 4000000 in
set_option maxRecDepth 100000 in
theorem levels_on.calls (A0 : Option Addr) (c0 : Nat) (l0 : List S38) (a1 : Int) (r : List S38) (w : World) (hr0 : Kd.C k38 w A0 l0.length l0) (hc0 : l0.length ≤ c0) (h : levels_on.f l0 a1 = some r) :
  Calls Try.prog 28 #[.slice A0 l0.length c0, .int .i64 a1] w fun e w' => ∃ v0_ : Value, e = .returned v0_ ∧ Kd.R k38 38 w' w.heap.size (fun _ => True) v0_ r ∧ Below w.heap.size w w' := by
 unfold levels_on.f at h
 split at h
 ·rename_i g0
  obtain rfl := Option.some.inj h
  have B1 : Below w.heap.size w (w.alloc (.cells #[.int .i64 a1] 3)) := below_alloc (Below.refl _ _) _
  have K1 := heap_alloc_new w (.cells #[.int .i64 a1] 3)
  have hcl := cloneP.calls A0 c0 l0 l0 (w.alloc (.cells #[.int .i64 a1] 3)) (Kd.C_below hr0 B1) hc0 (by unfold cloneP.f; rw [if_pos g0])
  have hs1 : (w.alloc (.cells #[.int .i64 a1] 3)).heap.size = w.heap.size + 1 := by simp
  have HB1 := Aside0.mk B1
  have HK1 := Aside0.mk K1
  have HS1 := Aside0.mk hs1
  have G0 := Aside0.mk g0
  clear hr0 hc0 h B1 K1 hs1 g0
  go_enter Try.func28, Try.ntmps28
  go_wp2_with fail
  refine hcl.mono ?_
  rintro e w2 ⟨v1, rfl, hR, hB2⟩
  have hob : ∀ k, v1.ownBlock = some k → w.heap.size + 1 ≤ k := fun k hk => by have := Kd.R_base hR k hk; rw [HS1.out] at this; exact this
  have hd := DeleteFunc_T (fun p => p.f1 != a1) 50 #[.pointer (some ⟨w.heap.size, 0, none⟩)] (enters_of Try.func50 (by kernel_rfl) rfl) _ _ v1 l0 w2 hR (by have := G0.out; omega) (fun W x hW => on_1.calls w.heap.size a1 x W (by
   refine (hW.block w.heap.size ?_ (fun hk => ?_)).trans (blk_below HK1.out hB2)
   ·have := hB2.size; rw [HS1.out] at this; omega
   ·have := hob _ hk.symm; omega))
  have HB2 := Aside0.mk hB2
  have HOB := Aside0.mk hob
  clear hR hB2 hob hcl
  go_wp2_with fail
  refine hd.mono ?_
  rintro e w3 ⟨v2, rfl, hv2, hR2, hg⟩
  have hf : (l0.filter (fun x => !(x.f1 != a1))) = l0.filter (fun p => p.f1 == a1) := List.filter_congr (fun x _ => by simp [bne])
  rw [hf] at hR2
  have HR2 := Aside0.mk hR2
  have HG := Aside0.mk hg
  clear hR2 hg hd hf hv2
  go_wp2
  go_ret
  refine ⟨_, rfl, Kd.R_mono (Kd.R_lower HR2.out (by rw [HS1.out]; omega)) (fun _ _ => trivial), ?_⟩
  have b2 : Below w.heap.size w w2 := below_then HB1.out HB1.out.size HB2.out
  exact pw_below_grown b2 _ b2.size HG.out (fun k hk => by have := HOB.out k hk; omega)
 ·cases h


end Go.Proofs.Ytcbgcmaioicdbaa.Pr
