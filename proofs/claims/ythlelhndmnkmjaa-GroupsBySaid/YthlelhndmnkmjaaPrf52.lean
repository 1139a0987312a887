-- printed by xprint.py
import Derived.Test.YthlelhndmnkmjaaPr0
import Derived.Test.YthlelhndmnkmjaaPrf53
import Derived.Test.YthlelhndmnkmjaaPrf41
import Derived.Test.YthlelhndmnkmjaaStbr
import Derived.Test.YthlelhndmnkmjaaThy
namespace Go.Proofs.Ythlelhndmnkmjaa.Pr
open Go.RowKit Go.Proofs.YthlelhndmnkmjaaW PrintWords PrintLast PrintMore
set_option linter.unusedVariables false
set_option linter.unusedSimpArgs false

/-! ### sortTop: function 52 -/
--@import Derived.Test.YthlelhndmnkmjaaStbr
--@import Derived.Test.YthlelhndmnkmjaaThy
def encG (x : S49) : List Value := [.bool x.f0.f0, .int .i64 x.f0.f1, .string x.f0.f2, .int .i64 x.f1.f0, .int .i64 x.f1.f1, .int .i64 x.f1.f2, .bool x.f1.f3.f0, .int .i64 x.f1.f3.f1, .string x.f1.f3.f2, .bool x.f1.f4.f0, .int .i64 x.f1.f4.f1, .string x.f1.f4.f2]
theorem encG_one (x : S49) : ∀ v ∈ encG x, v.oneCell' = true := by
 intro v hv
 simp only [encG, List.mem_cons, List.not_mem_nil, or_false] at hv
 rcases hv with rfl | rfl | rfl | rfl | rfl | rfl | rfl | rfl | rfl | rfl | rfl | rfl <;> rfl
instance inhG : Inhabited S49 := ⟨z49⟩
/-- the library's stable sort of groups, whatever the comparison -/
theorem sortG (cf : S49 → S49 → Int) (g : Nat) (eg : ∀ args w, (callFunc g args).run Try.prog w = .ok (.enter g args) w) (hcmp : Stab.CmpB Try.prog g #[] encG cf) (hO : Sort.SWO (ltOf cf))
  (P0_ : Nat → Prop) (u9000_ : Value) (l0 : List S49) (w0 w : World) (hB : Below w0.heap.size w0 w) (ho0 : Kd.R k49 49 w w0.heap.size P0_ u9000_ l0) (hl : l0.length < 1152921504606846976) :
  Calls Try.prog 52 #[u9000_, .func (.func g) #[] #[]] w fun e w' => e = .returned (.tuple #[]) ∧ Kd.R k49 49 w' w0.heap.size (fun k_ => (P0_ k_ ∨ w.heap.size ≤ k_)) u9000_ (Stab.ssort (ltOf cf) l0) ∧ Below w0.heap.size w0 w' ∧ Kept w w' (fun k_ => P0_ k_) := by
 refine (Stab.sortOwn k49 encG Stab.lay (fun _ => rfl) encG_one (fun h => k49_openM h) k49_mkM cf g #[] eg hcmp hO ho0 hl).mono ?_
 rintro e w' ⟨rfl, hR, hg⟩
 refine ⟨rfl, Kd.R_mono hR (fun k_ hk => .inl hk), ?_, hg.size, fun i hi hn => hg.block i hi (fun e_ => hn (ho0.1 i e_.symm))⟩
 obtain ⟨inner, ho⟩ := Kd.R_own ho0
 exact pw_below_grown hB u9000_.ownBlock hB.size hg (fun k_ hk => own_base ho k_ hk)
def cfTop (x y : S49) : Int := if y.f1.f1 < x.f1.f1 then -1 else if x.f1.f1 < y.f1.f1 then 1 else 0
theorem cfTop_lt (x y : S49) : ltOf cfTop x y = decide (y.f1.f1 < x.f1.f1) := by
 unfold ltOf cfTop
 by_cases h : y.f1.f1 < x.f1.f1
 ·simp [h]
 ·by_cases h2 : x.f1.f1 < y.f1.f1 <;> simp [h, h2]
theorem cfTop_swo : Sort.SWO (ltOf cfTop) := by
 refine ⟨fun x => ?_, fun x y z h1 h2 => ?_, fun x y z h1 h2 => ?_⟩
 ·rw [cfTop_lt]; simp
 ·rw [cfTop_lt] at *; simp at *; omega
 ·rw [cfTop_lt] at *; simp at *; omega
theorem cfTop_cmp : Stab.CmpB Try.prog 53 #[] encG cfTop := by
 intro x y W
 have h := groups_Top_1.calls x.f0.f0 x.f0.f1 x.f0.f2 x.f1.f0 x.f1.f1 x.f1.f2 x.f1.f3.f0 x.f1.f3.f1 x.f1.f3.f2 x.f1.f4.f0 x.f1.f4.f1 x.f1.f4.f2 y.f0.f0 y.f0.f1 y.f0.f2 y.f1.f0 y.f1.f1 y.f1.f2 y.f1.f3.f0 y.f1.f3.f1 y.f1.f3.f2 y.f1.f4.f0 y.f1.f4.f1 y.f1.f4.f2 (cfTop x y) W (by unfold groups_Top_1.f; rw [cmp_Compare_int64.is]; rfl)
 rw [Array.append_empty]
 exact h.mono fun e w' ⟨he, hb⟩ => ⟨he, hb⟩
def sortTop.f (l0 : List S49) : Option (List S49) := if l0.length < 1152921504606846976 then some (Stab.ssort (ltOf cfTop) l0) else none
theorem sortTop.calls (P0_ : Nat → Prop) (u9000_ : Value) (l0 : List S49) (r : List S49) (w0 w : World) (hB : Below w0.heap.size w0 w) (ho0 : Kd.R k49 49 w w0.heap.size P0_ u9000_ l0) (h : sortTop.f l0 = some r) :
  Calls Try.prog 52 #[u9000_, .func (.func 53) #[] #[]] w fun e w' => e = .returned (.tuple #[]) ∧ Kd.R k49 49 w' w0.heap.size (fun k_ => (P0_ k_ ∨ w.heap.size ≤ k_)) u9000_ r ∧ Below w0.heap.size w0 w' ∧ Kept w w' (fun k_ => P0_ k_) := by
 unfold sortTop.f at h
 split at h
 ·rename_i hl
  obtain rfl := Option.some.inj h
  exact sortG cfTop 53 (enters_of Try.func53 (by kernel_rfl) rfl) cfTop_cmp cfTop_swo P0_ u9000_ l0 w0 w hB ho0 hl
 ·cases h


end Go.Proofs.Ythlelhndmnkmjaa.Pr
