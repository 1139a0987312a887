-- printed by xprint.py
import Derived.Test.YtnfliommpdjlkaaPr0
import Derived.Lib.SliceRun
namespace Go.Proofs.Ytnfliommpdjlkaa.Pr
open Go.RowKit Go.Proofs.YtnfliommpdjlkaaW PrintWords PrintLast PrintMore
set_option linter.unusedVariables false
set_option linter.unusedSimpArgs false

/-! ### cloneR: function 38 -/
--@import Derived.Lib.SliceRun
def cloneR.f (l0 : List S27) : Option (List S27) := if l0.length ≤ 4398046511103 then some l0 else none
set_option maxHeartbeats 4000000 in
set_option maxRecDepth 100000 in
theorem cloneR.calls (A0 : Option Addr) (c0 : Nat) (l0 r : List S27) (w : World) (hr0 : Kd.C k27 w A0 l0.length l0) (hc0 : l0.length ≤ c0) (h : cloneR.f l0 = some r) :
  Calls Try.prog 38 #[.slice A0 l0.length c0] w fun e w' => ∃ v0_ : Value, e = .returned v0_ ∧ Kd.R k27 27 w' w.heap.size (fun _ => True) v0_ r ∧ Below w.heap.size w w' := by
 unfold cloneR.f at h
 split at h
 ·rename_i g0
  obtain rfl := Option.some.inj h
  have qsl : ∀ (w : World) (a : Option Addr) (n c n' c' : Nat), (binOp .eql 23 (.slice a n c) (.slice none n' c')).run Try.prog w = .ok (.bool a.isNone) w := fun w a n c n' c' => Lib.run_eql_slice_nil w _ _ a n c n' c' Try.underlying23
  have HR0 := Aside0.mk hr0
  clear hr0
  rcases A0 with _ | ad
  ·have h0 : l0 = [] := by
    rcases Nat.eq_zero_or_pos l0.length with h0 | h0
    ·exact List.eq_nil_of_length_eq_zero h0
    ·obtain ⟨ad, h, _⟩ := HR0.out.2.2 h0
     cases h
   subst h0
   go_enter Try.func38, Try.ntmps38
   go_wp2
   go_ret
   exact ⟨_, rfl, Kd.R_nil _ _ _ _ _, Below.refl _ _⟩
  ·go_enter Try.func38, Try.ntmps38
   go_wp2_with (at_builtin; refine Kd.R_append_rows k27 (w0 := w) w.heap.size rfl _ _ 23 27 (.agg #[(.bool false), (.int .i64 0), (.string ⟨#[]⟩)]) 32 rfl Try.underlying23 info27 rfl (by decide) (by omega) _ ([] : List (S27)) l0 _ _ _ (fun _ => True) (fun _ => False) rfl rfl ?aO ?aR (fun _ _ h => h) (fun _ h => h.elim) ?aF ?aB ?aS ?aL ?_; (case aR => exact Kd.C_alloc HR0.out _); (case aB => exact below_alloc (Below.refl _ _) _); (case aF => exact (fun _ _ => trivial)); (case aO => exact ⟨fun _ _ => trivial, [], World.ownsRow_made w #[] 0 (Nat.le_refl _) (Nat.zero_le _) (by simp), Reps.none _ _⟩); (case aS => simp); (case aL => simp only [List.length_nil]; omega); intro v1 w1 ho hb hg hat)
   go_ret
   exact ⟨_, rfl, by simpa using ho, hb⟩
 ·cases h


end Go.Proofs.Ytnfliommpdjlkaa.Pr
