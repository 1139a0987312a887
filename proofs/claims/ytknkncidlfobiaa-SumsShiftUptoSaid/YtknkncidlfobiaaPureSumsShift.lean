/- The law SumsShift: its walk, out of the contracts of what it calls. -/
import Derived.Test.YtknkncidlfobiaaRdk
import Derived.Test.YtknkncidlfobiaaPr0
import Derived.Test.YtknkncidlfobiaaPrf14
import Derived.Test.YtknkncidlfobiaaPrf28
import Derived.Test.YtknkncidlfobiaaPrf29
import Derived.Test.YtknkncidlfobiaaPrf32
import Derived.Test.YtknkncidlfobiaaPrf33
import Derived.Test.YtknkncidlfobiaaPrf43xc
import Derived.Test.YtknkncidlfobiaaPrzSums
import Derived.WalkArith
namespace Go.Proofs.Ytknkncidlfobiaa.Pr
open Go.RowKit Go.Proofs.Ytknkncidlfobiaa.Brid Go.Proofs.YtknkncidlfobiaaW.PrintWords Go.Proofs.YtknkncidlfobiaaW.PrintLast Go.Proofs.YtknkncidlfobiaaW.PrintMore
set_option linter.unusedVariables false
set_option linter.unusedSimpArgs false
--@import Derived.WalkArith
theorem u64w (x : Int) : IntKind.u64.wrap x = x % 18446744073709551616 := by
  first
    | rfl
    | simp [IntKind.wrap, IntKind.bits, IntKind.signed]
theorem w64m (x : Int) : wrap64 x % 18446744073709551616 = x % 18446744073709551616 := by unfold wrap64; omega
theorem w64p (x : Int) : wrap64 (IntKind.u64.wrap x) = wrap64 x := by rw [u64w]; unfold wrap64; omega
def rowA (x : Int) : List S23 := [(⟨false, x, (⟨#[]⟩ : ByteArray)⟩ : S23)]
def shN (m x : Int) : Int := wrap64 (IntKind.u64.wrap ((IntKind.u64.wrap x) + (IntKind.u64.wrap m)))
def rowN : List S23 := [(⟨true, 0, (⟨#[]⟩ : ByteArray)⟩ : S23)]
def manyA (l : List Int) (j : Nat) : List (List S23) := l.map rowA ++ List.replicate j rowN
theorem manyA_none (l : List Int) (j : Nat) : (manyA l j).any (fun r => noneB r 0) = false := by
  rw [List.any_eq_false]
  intro r hr
  have : r.length = 1 := by
    rcases List.mem_append.1 hr with h | h
    · obtain ⟨x, _, rfl⟩ := List.mem_map.1 h; rfl
    · rw [(List.mem_replicate.1 h).2]; rfl
  simp [noneB, this]
theorem manyA_col (l : List Int) (j : Nat) : colV (manyA l j) 0 = l.map (fun x => (⟨false, x, (⟨#[]⟩ : ByteArray)⟩ : S23)) ++ List.replicate j (⟨true, 0, (⟨#[]⟩ : ByteArray)⟩ : S23) := by
  simp only [colV, manyA, List.map_append, List.map_map, List.map_replicate]
  rfl
theorem manyA_nn (l : List Int) (j : Nat) : nnV (colV (manyA l j) 0) = l.map (fun x => (⟨false, x, (⟨#[]⟩ : ByteArray)⟩ : S23)) := by
  rw [manyA_col, nnV_append]
  have h1 : ∀ l : List Int, nnV (l.map (fun x => (⟨false, x, (⟨#[]⟩ : ByteArray)⟩ : S23))) = l.map (fun x => (⟨false, x, (⟨#[]⟩ : ByteArray)⟩ : S23)) := by
    intro l
    induction l with
    | nil => rfl
    | cons x r ih => simp only [nnV, List.map_cons] at ih ⊢; rw [List.filter_cons_of_pos (by rfl), ih]
  have h2 : ∀ j : Nat, nnV (List.replicate j (⟨true, 0, (⟨#[]⟩ : ByteArray)⟩ : S23)) = [] := by
    intro j
    simp [nnV]
  rw [h1, h2, List.append_nil]
theorem manyA_len (l : List Int) (j : Nat) : (manyA l j).length = l.length + j := by simp [manyA]
theorem manyA_wf (l : List Int) (j : Nat) (h : ∀ x ∈ l, (Lit.int .i64 x).wf = true) : ∀ r ∈ manyA l j, ∀ x ∈ r, (Lit.int .i64 x.f1).wf = true := by
  intro r hr x hx
  rcases List.mem_append.1 hr with q | q
  · obtain ⟨y, hy, rfl⟩ := List.mem_map.1 q
    rw [rowA, List.mem_singleton] at hx
    rw [hx]; exact h y hy
  · rw [(List.mem_replicate.1 q).2, rowN, List.mem_singleton] at hx
    rw [hx]; rfl
theorem manyA_says (l : List Int) (j : Nat) (h : ∀ x ∈ l, (Lit.int .i64 x).wf = true) (hl : l.length + j < 9223372036854775808) : Says (foldV 0 zeroS (manyA l j)) (colV (manyA l j) 0) :=
  Says.ofRows 0 _ (manyA_wf l j h) (by rw [manyA_len]; exact hl)
theorem shN_wf (m x : Int) : (Lit.int .i64 (shN m x)).wf = true := by
  apply WalkArith.wf_i64
  unfold shN
  unfold wrap64
  omega
theorem shift_sum (m : Int) (l : List Int) : sumV ((l.map (shN m)).map (fun x => (⟨false, x, (⟨#[]⟩ : ByteArray)⟩ : S23))) % 18446744073709551616 =
    (sumV (l.map (fun x => (⟨false, x, (⟨#[]⟩ : ByteArray)⟩ : S23))) + m * l.length) % 18446744073709551616 := by
  induction l with
  | nil => simp [sumV]
  | cons x r ih =>
    simp only [List.map_cons, sumV, List.length_cons]
    have h1 : shN m x % 18446744073709551616 = (x + m) % 18446744073709551616 := by unfold shN; rw [w64m, u64w, u64w, u64w]; omega
    have h2 : m * ((r.length + 1 : Nat) : Int) = m * (r.length : Int) + m := by rw [Int.natCast_add, Int.mul_add]; simp
    rw [h2]
    generalize m * (r.length : Int) = P at *
    omega
theorem shift_end (k : Nat) (l : List Int) (a1 a2 : Int) (hw : ∀ x ∈ l, (Lit.int .i64 x).wf = true) (hl : l.length ≤ 1048576) : ∀ (d k j : Nat), (j : Int) + d = wrap64 (Int.tmod (IntKind.u64.wrap a1) 20) → j + d < 20 → d < k →
    tithebarnlaw18_SumsShift.l1 k l a1 a2 (manyA l j) (manyA (l.map (shN a2)) j) (j : Int) = some true := by
  intro d
  induction d with
  | zero =>
    intro k j hj h20 hk
    obtain ⟨k, rfl⟩ : ∃ m, k = m + 1 := ⟨k - 1, by omega⟩
    rw [tithebarnlaw18_SumsShift.l1, if_neg (by omega)]
    simp only [sums_Fold_c.f, manyA_none, Option.bind_some, Bool.false_eq_true, if_false, Sm.tup10, if_true]
    have sa := manyA_says l j hw (by omega)
    have sb := manyA_says (l.map (shN a2)) j (fun x hx => by obtain ⟨y, _, rfl⟩ := List.mem_map.1 hx; exact shN_wf a2 y) (by rw [List.length_map]; omega)
    have ca := sa.c; have cb := sb.c; have va := sa.v; have vb := sb.v; have ma := sa.sm; have mb := sb.sm
    rw [manyA_nn] at va ma vb mb
    have ea : (foldV 0 zeroS (manyA l j)).c = (foldV 0 zeroS (manyA (l.map (shN a2)) j)).c := by rw [ca, cb]; simp [colV, manyA_len]
    rw [if_pos ea, if_pos (by rw [va]; simp), if_pos (by rw [vb]; simp), ma, mb]
    have hs := shift_sum a2 l
    have : IntKind.u64.wrap (wrap64 (sumV ((l.map (shN a2)).map (fun x => (⟨false, x, (⟨#[]⟩ : ByteArray)⟩ : S23))))) = IntKind.u64.wrap ((IntKind.u64.wrap (wrap64 (sumV (l.map (fun x => (⟨false, x, (⟨#[]⟩ : ByteArray)⟩ : S23)))))) + (IntKind.u64.wrap ((IntKind.u64.wrap a2) * (IntKind.u64.wrap (l.length : Int))))) := by
      simp only [u64w, w64m]
      rw [hs, ← Int.mul_emod]
      generalize a2 * (l.length : Int) = P
      omega
    rw [this]; simp
  | succ d ih =>
    intro k j hj h20 hk
    obtain ⟨k, rfl⟩ : ∃ m, k = m + 1 := ⟨k - 1, by omega⟩
    have hm : ∀ l : List Int, manyA l j ++ [(([(⟨true, 0, (⟨#[]⟩ : ByteArray)⟩ : S23)] : List (S23)))] = manyA l (j + 1) := by
      intro l
      rw [manyA, manyA, List.append_assoc, List.replicate_succ']; rfl
    have hw1 : wrap64 ((j : Int) + 1) = ((j + 1 : Nat) : Int) := by unfold wrap64; omega
    rw [tithebarnlaw18_SumsShift.l1, if_pos (by omega), if_pos (by rw [manyA_len]; omega), if_pos (by rw [manyA_len, List.length_map]; omega), hm, hm, hw1]
    exact ih k (j + 1) (by omega) (by omega) (by omega)
theorem shift_tells (l : List Int) (a1 a2 : Int) (hw : ∀ x ∈ l, (Lit.int .i64 x).wf = true) (hl : l.length ≤ 1048576) : ∀ (d k n : Nat), n + d = l.length → d + 21 < k →
    tithebarnlaw18_SumsShift.l0 k l a1 a2 ((l.take n).map rowA) (((l.take n).map (shN a2)).map rowA) (n : Int) = some true := by
  intro d
  induction d with
  | zero =>
    intro k n hn hk
    obtain ⟨k, rfl⟩ : ∃ m, k = m + 1 := ⟨k - 1, by omega⟩
    rw [tithebarnlaw18_SumsShift.l0, if_neg (by omega), List.take_of_length_le (by omega)]
    have h0 : 0 ≤ wrap64 (Int.tmod (IntKind.u64.wrap a1) 20) ∧ wrap64 (Int.tmod (IntKind.u64.wrap a1) 20) < 20 := by
      rw [u64w, Int.tmod_eq_emod_of_nonneg (by omega)]; unfold wrap64; omega
    have := shift_end k l a1 a2 hw hl (wrap64 (Int.tmod (IntKind.u64.wrap a1) 20)).toNat k 0 (by omega) (by omega) (by omega)
    simpa [manyA] using this
  | succ d ih =>
    intro k n hn hk
    obtain ⟨k, rfl⟩ : ∃ m, k = m + 1 := ⟨k - 1, by omega⟩
    have hlt : n < l.length := by omega
    have hw1 : wrap64 ((n : Int) + 1) = ((n + 1 : Nat) : Int) := by unfold wrap64; omega
    have ht : (l.take n).length ≤ n := by simp; omega
    rw [tithebarnlaw18_SumsShift.l0, if_pos (by omega), if_pos (by omega), if_pos (by rw [List.length_map]; omega), if_pos (by rw [List.length_map, List.length_map]; omega), hw1, rdI_at l n hlt]
    have := ih k (n + 1) (by omega) (by omega)
    rw [List.take_succ_eq_append_getElem hlt] at this
    simp only [List.map_append, List.map_cons, List.map_nil] at this
    exact this
theorem SumsShift_walk (W : World) (A0 : Option Addr) (c0 : Nat) (l0 : List (Int)) (hc0 : l0.length ≤ c0) (hr0 : Kd.C (Kd.int .i64) W A0 l0.length l0) (b0 : BL (BI .i64) l0 1048576) (a1 : Int) (b1 : (Lit.int .i64 a1).wf = true) (a2 : Int) (b2 : (Lit.int .i64 a2).wf = true) :
    Calls Try.prog 14 #[.slice A0 l0.length c0, .int .i64 a1, .int .i64 a2] W fun e W' => e = .returned (.bool true) ∧ Below W.heap.size W W' := by
  obtain ⟨g0, g1⟩ := b0
  refine tithebarnlaw18_SumsShift.calls (l0.length + 30) A0 c0 l0 a1 a2 true W hr0 hc0 ?_
  have := shift_tells l0 a1 a2 g1 g0 l0.length (l0.length + 30) 0 (by omega) (by omega)
  simp only [tithebarnlaw18_SumsShift.f, tithebarnlaw18_lives_c.f, Option.bind_some, if_true]
  exact this

end Go.Proofs.Ytknkncidlfobiaa.Pr
