/- The law SumsBounds: its walk, out of the contracts of what it calls. -/
import Derived.Test.YtknkncidlfobiaaRdk
import Derived.Test.YtknkncidlfobiaaPr0
import Derived.Test.YtknkncidlfobiaaPrf13
import Derived.Test.YtknkncidlfobiaaPrf28
import Derived.Test.YtknkncidlfobiaaPrf29
import Derived.Test.YtknkncidlfobiaaPrf32
import Derived.Test.YtknkncidlfobiaaPrf33
import Derived.Test.YtknkncidlfobiaaPrf34
import Derived.Test.YtknkncidlfobiaaPrf43xc
import Derived.Test.YtknkncidlfobiaaPrzSums
import Derived.Test.YtknkncidlfobiaaThy
namespace Go.Proofs.Ytknkncidlfobiaa.Pr
open Go.RowKit Go.Proofs.Ytknkncidlfobiaa.Brid Go.Proofs.YtknkncidlfobiaaW.PrintWords Go.Proofs.YtknkncidlfobiaaW.PrintLast Go.Proofs.YtknkncidlfobiaaW.PrintMore
set_option linter.unusedVariables false
set_option linter.unusedSimpArgs false
theorem beqV (a b : S23) : (a.f0 == b.f0 && (a.f1 == b.f1 && (a.f2.toList == b.f2.toList))) = true ↔ a = b := by
  constructor
  · intro h
    simp only [Bool.and_eq_true, beq_iff_eq] at h
    exact S_ext h.1 h.2.1 (Thy.toList_inj h.2.2)
  · rintro rfl; simp
theorem aheadV (a b : S23) (h : a.f2.size ≤ 9223372036854775807) (h' : b.f2.size ≤ 9223372036854775807) : tithebarnref02_Ahead_c.f a.f0 a.f1 a.f2 b.f0 b.f1 b.f2 = some (lessV a b) := by
  first
    | (simp only [tithebarnref02_Ahead_c.f, if_pos h]; rfl)
    | (simp only [tithebarnref02_Ahead_c.f, if_pos h']; rfl)
    | (simp only [tithebarnref02_Ahead_c.f, if_pos h, if_pos h']; rfl)
theorem bounds_tells (l : List (List S23)) (col : Int) (s : Sm) (hs : Says s (colV l col)) (hl : l.length ≤ 9223372036854775807)
    (hb : ∀ r ∈ l, noneB r col = false) (hsz : ∀ r ∈ l, (rd_T23 r col).f2.size ≤ 9223372036854775807) (h1 : s.lo.f2.size ≤ 9223372036854775807) (h2 : s.hi.f2.size ≤ 9223372036854775807) : ∀ (d k n : Nat) (x8 x9 : Bool), n + d = l.length → 3 * d + 1 ≤ k →
    (x8 = true ↔ s.lo ∈ nnV ((colV l col).take n)) → (x9 = true ↔ s.hi ∈ nnV ((colV l col).take n)) →
    tithebarnlaw18_SumsBounds.l0 k l col ((nnV ((colV l col).take n)).length : Int) x8 x9 (n : Int) s.c s.s s.v s.lo.f0 s.lo.f1 s.lo.f2 s.hi.f0 s.hi.f1 s.hi.f2 = some true := by
  have hcl : (colV l col).length = l.length := by simp [colV]
  intro d
  induction d with
  | zero =>
    intro k n x8 x9 hn hk e8 e9
    obtain ⟨k, rfl⟩ : ∃ m, k = m + 1 := ⟨k - 1, by omega⟩
    have htk : (colV l col).take n = colV l col := List.take_of_length_le (by omega)
    rw [htk] at e8 e9 ⊢
    simp only [tithebarnlaw18_SumsBounds.l0]
    rw [if_neg (by omega), if_pos (by rw [hs.c, hcl]), if_pos hs.v]
    by_cases h0 : nnV (colV l col) = []
    · obtain ⟨q1, q2⟩ := hs.no h0
      have q3 : s.s = 0 := by rw [hs.sm, h0]; simp [sumV, wrap64]
      rw [if_pos (by rw [h0]; rfl), if_pos (by rw [q1]; simp [z23]), if_pos (by rw [q2]; simp [z23]), if_pos q3]
    · have hp := List.length_pos_iff.2 h0
      have r8 : x8 = true := e8.2 (hs.lo h0).1
      have r9 : x9 = true := e9.2 (hs.hi h0).1
      rw [if_neg (by omega), if_pos (by omega), if_pos r8, r9]
  | succ d ih =>
    intro k n x8 x9 hn hk e8 e9
    obtain ⟨k, rfl⟩ : ∃ m, k = m + 3 := ⟨k - 3, by omega⟩
    have hlt : n < l.length := by omega
    have hlc : n < (colV l col).length := by omega
    have hw : wrap64 ((n : Int) + 1) = ((n + 1 : Nat) : Int) := by unfold wrap64; omega
    have hrow : rd_L6 l (n : Int) = l[n] := rdRow_at l n hlt
    have h01 := none_in (hb l[n] (List.getElem_mem hlt))
    have hcol : (colV l col)[n] = rd_T23 l[n] col := by simp [colV]
    have htk : (colV l col).take (n + 1) = (colV l col).take n ++ [rd_T23 l[n] col] := by rw [List.take_succ_eq_append_getElem hlc, hcol]
    have hmem : rd_T23 l[n] col ∈ colV l col := by rw [← hcol]; exact List.getElem_mem hlc
    have hv := hsz l[n] (List.getElem_mem hlt)
    rw [tithebarnlaw18_SumsBounds.l0, if_pos (by omega), if_pos (by omega), if_pos h01.1, hrow, if_pos h01.2, hw]
    generalize hV : rd_T23 l[n] col = v at *
    by_cases hnull : v.f0 = true
    · have hnn : nnV ((colV l col).take (n + 1)) = nnV ((colV l col).take n) := by rw [htk, nnV_append]; simp [nnV, hnull]
      rw [if_pos hnull]
      have := ih (k + 2) (n + 1) x8 x9 (by omega) (by omega) (by rw [hnn]; exact e8) (by rw [hnn]; exact e9)
      rw [hnn] at this
      exact this
    · have hnn : nnV ((colV l col).take (n + 1)) = nnV ((colV l col).take n) ++ [v] := by rw [htk, nnV_append]; simp [nnV, hnull]
      have hvn : v ∈ nnV (colV l col) := List.mem_filter.2 ⟨hmem, by simpa using hnull⟩
      have hne : nnV (colV l col) ≠ [] := List.ne_nil_of_mem hvn
      have hlo := (hs.lo hne).2 v hvn
      have hhi := (hs.hi hne).2 v hvn
      have hle : (nnV ((colV l col).take n)).length ≤ n := Nat.le_trans (List.length_filter_le ..) (by simp; omega)
      have hw2 : wrap64 (((nnV ((colV l col).take n)).length : Int) + 1) = ((nnV ((colV l col).take (n + 1))).length : Int) := by
        rw [hnn, List.length_append, List.length_singleton, wrap_id (by omega) (by omega)]; omega
      rw [if_neg hnull, hw2]
      have hj2 : ∀ y8 y9 : Bool, (y8 = true ↔ s.lo ∈ nnV ((colV l col).take (n + 1))) → (y9 = true ↔ s.hi ∈ nnV ((colV l col).take (n + 1))) →
          tithebarnlaw18_SumsBounds.j2 (k + 1) l col ((nnV ((colV l col).take (n + 1))).length : Int) y8 y9 (n : Int) s.c s.s s.v s.lo.f0 s.lo.f1 s.lo.f2 s.hi.f0 s.hi.f1 s.hi.f2 v.f0 v.f1 v.f2 = some true := by
        intro y8 y9 f8 f9
        rw [tithebarnlaw18_SumsBounds.j2, aheadV v s.lo hv h1, aheadV s.hi v h2 hv, hlo, hhi, hw]
        simp only [Option.bind_some, Bool.false_eq_true, if_false]
        exact ih k (n + 1) y8 y9 (by omega) (by omega) f8 f9
      have hj1 : ∀ y8 : Bool, (y8 = true ↔ s.lo ∈ nnV ((colV l col).take (n + 1))) →
          tithebarnlaw18_SumsBounds.j1 (k + 2) l col ((nnV ((colV l col).take (n + 1))).length : Int) y8 x9 (n : Int) s.c s.s s.v s.lo.f0 s.lo.f1 s.lo.f2 s.hi.f0 s.hi.f1 s.hi.f2 v.f0 v.f1 v.f2 = some true := by
        intro y8 f8
        rw [tithebarnlaw18_SumsBounds.j1]
        by_cases h9 : x9 = true
        · rw [if_pos h9]
          exact hj2 _ _ f8 ⟨fun _ => by rw [hnn]; exact List.mem_append_left _ (e9.1 h9), fun _ => rfl⟩
        · rw [if_neg h9]
          refine hj2 _ _ f8 ?_
          rw [beqV v s.hi, hnn, List.mem_append, List.mem_singleton]
          constructor
          · rintro rfl; exact .inr rfl
          · rintro (h | h)
            · exact absurd (e9.2 h) h9
            · exact h.symm
      by_cases h8 : x8 = true
      · rw [if_pos h8]
        exact hj1 _ ⟨fun _ => by rw [hnn]; exact List.mem_append_left _ (e8.1 h8), fun _ => rfl⟩
      · rw [if_neg h8]
        refine hj1 _ ?_
        rw [beqV v s.lo, hnn, List.mem_append, List.mem_singleton]
        constructor
        · rintro rfl; exact .inr rfl
        · rintro (h | h)
          · exact absurd (e8.2 h) h8
          · exact h.symm
theorem SumsBounds_walk (W : World) (A0 : Option Addr) (c0 : Nat) (l0 : List (List (S23))) (hc0 : l0.length ≤ c0) (hr0 : Kd.C (Kd.slice 23 k23) W A0 l0.length l0) (b0 : BL (BL B23) l0 maxLen) (a1 : Int) (b1 : (Lit.int .i64 a1).wf = true) :
    Calls Try.prog 13 #[.slice A0 l0.length c0, .int .i64 a1] W fun e W' => e = .returned (.bool true) ∧ Below W.heap.size W W' := by
  obtain ⟨g0, g1⟩ := b0
  refine tithebarnlaw18_SumsBounds.calls (3 * l0.length + 1) A0 c0 l0 a1 true W hr0 hc0 ?_
  have hlen : l0.length ≤ 9223372036854775807 := g0
  have hwf : ∀ r ∈ l0, ∀ x ∈ r, (Lit.int .i64 x.f1).wf = true := fun r hr x hx => (B23_open ((g1 r hr).2 x hx)).2.1
  have hsz0 : ∀ r ∈ l0, ∀ x ∈ r, x.f2.size ≤ 9223372036854775807 := fun r hr x hx => (B23_open ((g1 r hr).2 x hx)).2.2
  have hsz : ∀ r ∈ l0, (rd_T23 r a1).f2.size ≤ 9223372036854775807 := by
    intro r hr
    unfold rd_T23
    rw [List.getD_eq_getElem?_getD]
    cases h : r[a1.toNat]? with
    | none => show (⟨#[]⟩ : ByteArray).size ≤ _; exact Nat.zero_le _
    | some x => exact hsz0 r hr x (List.mem_of_getElem? h)
  have hsays := Says.ofRows a1 l0 hwf (by omega)
  have hcs : ∀ v ∈ colV l0 a1, v.f2.size ≤ 9223372036854775807 := by
    intro v hv
    obtain ⟨r, hr, rfl⟩ := List.mem_map.1 hv
    exact hsz r hr
  have hz : z23.f2.size ≤ 9223372036854775807 := Nat.zero_le _
  have hlo : (foldV a1 zeroS l0).lo.f2.size ≤ 9223372036854775807 := by
    by_cases h : nnV (colV l0 a1) = []
    · rw [(hsays.no h).1]; exact hz
    · exact hcs _ (List.mem_filter.1 (hsays.lo h).1).1
  have hhi : (foldV a1 zeroS l0).hi.f2.size ≤ 9223372036854775807 := by
    by_cases h : nnV (colV l0 a1) = []
    · rw [(hsays.no h).2]; exact hz
    · exact hcs _ (List.mem_filter.1 (hsays.hi h).1).1
  simp only [tithebarnlaw18_SumsBounds.f, tithebarnlaw18_lives_c.f, Option.bind_some, if_true, sums_Fold_c.f]
  by_cases hn : l0.any (fun r => noneB r a1) = true
  · rw [if_pos hn]
    simp [Sm.tup10, zeroS, z23]
  · rw [if_neg hn]
    simp only [Sm.tup10, if_true]
    have hb : ∀ r ∈ l0, noneB r a1 = false := by
      intro r hr
      cases h : noneB r a1 with
      | false => rfl
      | true => exact absurd (List.any_eq_true.2 ⟨r, hr, h⟩) hn
    have := bounds_tells l0 a1 (foldV a1 zeroS l0) hsays hlen hb hsz hlo hhi l0.length (3 * l0.length + 1) 0 false false (by omega) (by omega) (by simp [nnV]) (by simp [nnV])
    simpa [nnV] using this

end Go.Proofs.Ytknkncidlfobiaa.Pr
