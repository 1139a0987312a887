/- The law ZoneSafe: its walk, out of the contracts of what it calls. -/
import Derived.Test.YtnfliommpdjlkaaRdk
import Derived.Test.YtnfliommpdjlkaaPr0
import Derived.Test.YtnfliommpdjlkaaPrf19
import Derived.Test.YtnfliommpdjlkaaPrf20
import Derived.Test.YtnfliommpdjlkaaPrf22
import Derived.Test.YtnfliommpdjlkaaPrf24
import Derived.Test.YtnfliommpdjlkaaPrf46
import Derived.Test.YtnfliommpdjlkaaPrf6
import Derived.Test.YtnfliommpdjlkaaPrzZones
import Derived.Test.YtnfliommpdjlkaaThy
namespace Go.Proofs.Ytnfliommpdjlkaa.Pr
open Go.RowKit Go.Proofs.Ytnfliommpdjlkaa.Brid Go.Proofs.YtnfliommpdjlkaaW.PrintWords Go.Proofs.YtnfliommpdjlkaaW.PrintLast Go.Proofs.YtnfliommpdjlkaaW.PrintMore
set_option linter.unusedVariables false
set_option linter.unusedSimpArgs false
theorem holds_nn {a : S38} {v : S27} (h0 : a.f0 ≠ 0) (h4 : a.f0 ≠ 4) (h5 : a.f0 ≠ 5) (h : holdsV a v = true) : v.f0 = false ∧ a.f2.f0 = false ∧
    ((a.f0 = 1 ∧ Thy.cmpV v.f0 v.f1 v.f2 a.f2.f0 a.f2.f1 a.f2.f2 = 0) ∨ (a.f0 = 2 ∧ lessV v a.f2 = true) ∨ (a.f0 = 3 ∧ lessV v a.f2 = false)) := by
  unfold holdsV at h
  rw [if_neg h0, if_neg h4, if_neg h5] at h
  by_cases hv : v.f0 = true
  · rw [if_pos hv] at h; cases h
  rw [if_neg hv] at h
  by_cases hw : a.f2.f0 = true
  · rw [if_pos hw] at h; cases h
  rw [if_neg hw] at h
  refine ⟨by simpa using hv, by simpa using hw, ?_⟩
  by_cases h1 : a.f0 = 1
  · rw [if_pos h1] at h; exact .inl ⟨h1, by simpa using h⟩
  rw [if_neg h1] at h
  by_cases h2 : a.f0 = 2
  · rw [if_pos h2] at h; exact .inr (.inl ⟨h2, h⟩)
  rw [if_neg h2] at h
  by_cases h3 : a.f0 = 3
  · rw [if_pos h3] at h; exact .inr (.inr ⟨h3, by unfold lessV; simpa using h⟩)
  rw [if_neg h3] at h; cases h
theorem holds_of {a : S38} {v : S27} (hv : v.f0 = false) (hw : a.f2.f0 = false)
    (h : (a.f0 = 2 ∧ lessV v a.f2 = true) ∨ (a.f0 = 3 ∧ lessV v a.f2 = false)) : holdsV a v = true := by
  unfold holdsV
  rw [hv, hw]
  unfold lessV at h
  rw [hv, hw] at h
  rcases h with ⟨e, h⟩ | ⟨e, h⟩ <;> simp [e, h]
theorem safe_one (l : List S27) (a : S38) {z : Zn} (hz : SaysZ z l) (h : l.any (holdsV a) = true) : mayV a z = true := by
  obtain ⟨v, hm, hh⟩ := List.any_eq_true.1 h
  unfold mayV
  by_cases h0 : a.f0 = 0
  · rw [if_pos h0, hz.nu]
    by_cases hv : v.f0 = true
    · rw [List.any_eq_true.2 ⟨v, hm, hv⟩]; rfl
    · have : nnV l ≠ [] := List.ne_nil_of_mem (List.mem_filter.2 ⟨hm, by simpa using hv⟩)
      rw [hz.va.2 this, Bool.or_true]
  rw [if_neg h0]
  by_cases h4 : a.f0 = 4
  · rw [if_pos h4, hz.nu]
    unfold holdsV at hh
    rw [if_neg h0, if_pos h4] at hh
    exact List.any_eq_true.2 ⟨v, hm, hh⟩
  rw [if_neg h4]
  by_cases h5 : a.f0 = 5
  · rw [if_pos h5]
    unfold holdsV at hh
    rw [if_neg h0, if_neg h4, if_pos h5] at hh
    exact hz.va.2 (List.ne_nil_of_mem (List.mem_filter.2 ⟨hm, hh⟩))
  rw [if_neg h5]
  obtain ⟨hv, hw, hc⟩ := holds_nn h0 h4 h5 hh
  have hn : v ∈ nnV l := List.mem_filter.2 ⟨hm, by simp [hv]⟩
  have hne : nnV l ≠ [] := List.ne_nil_of_mem hn
  obtain ⟨m1, l1⟩ := hz.lo hne
  obtain ⟨m2, l2⟩ := hz.hi hne
  rw [if_pos (hz.va.2 hne), if_neg (by rw [hw]; decide), solid_id (nnV_null m1), solid_id (nnV_null m2)]
  rcases hc with ⟨e, hc⟩ | ⟨e, hc⟩ | ⟨e, hc⟩
  · rw [if_pos e]
    have h1 : lessV v a.f2 = false := by
      cases q : lessV v a.f2 with
      | false => rfl
      | true => have := Thy.cmpV_lt.2 q; omega
    have h2 : lessV a.f2 v = false := by
      cases q : lessV a.f2 v with
      | false => rfl
      | true => have := Thy.cmpV_gt.2 q; omega
    rw [lessV_nt h2 (l1 v hn), lessV_nt (l2 v hn) h1]; rfl
  · rw [if_neg (by omega), if_pos e]
    cases q : lessV z.lo a.f2 with
    | true => rfl
    | false => rw [lessV_nt (l1 v hn) q] at hc; cases hc
  · rw [if_neg (by omega), if_neg (by omega), if_pos e, lessV_nt (l2 v hn) hc]; rfl
theorem safe_may (l : List S27) (a : S38) {z : Zn} (hz : SaysZ z l) (h : mayV a z = true) (h1 : a.f0 ≠ 1) : l.any (holdsV a) = true := by
  unfold mayV at h
  have hmem : ∀ {v : S27}, v ∈ nnV l → v ∈ l := fun hv => (List.mem_filter.1 hv).1
  by_cases h0 : a.f0 = 0
  · rw [if_pos h0, Bool.or_eq_true] at h
    have hall : ∀ v, holdsV a v = true := fun v => by unfold holdsV; rw [if_pos h0]
    rcases h with h | h
    · rw [hz.nu] at h
      obtain ⟨v, hm, _⟩ := List.any_eq_true.1 h
      exact List.any_eq_true.2 ⟨v, hm, hall v⟩
    · exact List.any_eq_true.2 ⟨_, hmem (hz.lo (hz.va.1 h)).1, hall _⟩
  rw [if_neg h0] at h
  by_cases h4 : a.f0 = 4
  · rw [if_pos h4, hz.nu] at h
    obtain ⟨v, hm, hv⟩ := List.any_eq_true.1 h
    exact List.any_eq_true.2 ⟨v, hm, by unfold holdsV; rw [if_neg h0, if_pos h4]; exact hv⟩
  rw [if_neg h4] at h
  by_cases h5 : a.f0 = 5
  · rw [if_pos h5] at h
    have hm := (hz.lo (hz.va.1 h)).1
    exact List.any_eq_true.2 ⟨_, hmem hm, by unfold holdsV; rw [if_neg h0, if_neg h4, if_pos h5, nnV_null hm]; rfl⟩
  rw [if_neg h5] at h
  by_cases hva : z.va = true
  · rw [if_pos hva] at h
    have hne := hz.va.1 hva
    obtain ⟨m1, l1⟩ := hz.lo hne
    obtain ⟨m2, l2⟩ := hz.hi hne
    by_cases hw : a.f2.f0 = true
    · rw [if_pos hw] at h; cases h
    rw [if_neg hw, if_neg h1, solid_id (nnV_null m1), solid_id (nnV_null m2)] at h
    have hw' : a.f2.f0 = false := by simpa using hw
    by_cases h2 : a.f0 = 2
    · rw [if_pos h2] at h
      exact List.any_eq_true.2 ⟨_, hmem m1, holds_of (nnV_null m1) hw' (.inl ⟨h2, h⟩)⟩
    rw [if_neg h2] at h
    by_cases h3 : a.f0 = 3
    · rw [if_pos h3] at h
      exact List.any_eq_true.2 ⟨_, hmem m2, holds_of (nnV_null m2) hw' (.inr ⟨h3, by simpa using h⟩)⟩
    rw [if_neg h3] at h; cases h
  · rw [if_neg hva] at h; cases h
theorem safe_tells (l : List S27) (a : S38) (hl : l.length ≤ 9223372036854775807) : ∀ (d k n : Nat) (one : Bool), n + d = l.length → d < k → one = (l.take n).any (holdsV a) →
    tithebarnlaw11_ZoneSafe.l0 k l one (n : Int) a.f0 a.f1 a.f2.f0 a.f2.f1 a.f2.f2 = some true := by
  intro d
  induction d with
  | zero =>
    intro k n one hn hk ho
    obtain ⟨k, rfl⟩ : ∃ m, k = m + 1 := ⟨k - 1, by omega⟩
    rw [List.take_of_length_le (by omega)] at ho
    rw [tithebarnlaw11_ZoneSafe.l0, if_neg (by omega)]
    have hz := SaysZ.of l
    have e1 := safe_one l a hz
    have e2 := safe_may l a hz
    simp only [zone_Of_c.f, zone_May_c.f, Option.bind_some, Zn.tup]
    rw [show (⟨a.f0, a.f1, ⟨a.f2.f0, a.f2.f1, a.f2.f2⟩⟩ : S38) = a from rfl, show (⟨(ofZ l).nu, (ofZ l).va, ⟨(ofZ l).lo.f0, (ofZ l).lo.f1, (ofZ l).lo.f2⟩, ⟨(ofZ l).hi.f0, (ofZ l).hi.f1, (ofZ l).hi.f2⟩⟩ : Zn) = ofZ l from rfl]
    rw [← ho] at e1 e2
    cases one with
    | true => rw [if_pos rfl, if_pos (e1 rfl)]
    | false =>
      rw [if_neg (by decide)]
      by_cases hm : mayV a (ofZ l) = true
      · rw [if_pos hm]
        by_cases h1 : a.f0 = 1
        · rw [h1]; rfl
        · have := e2 hm h1; cases this
      · rw [if_neg hm]
  | succ d ih =>
    intro k n one hn hk ho
    obtain ⟨k, rfl⟩ : ∃ m, k = m + 1 := ⟨k - 1, by omega⟩
    have hlt : n < l.length := by omega
    have hw : wrap64 ((n : Int) + 1) = ((n + 1 : Nat) : Int) := by unfold wrap64; omega
    have ht : (l.take (n + 1)).any (holdsV a) = ((l.take n).any (holdsV a) || holdsV a l[n]) := by
      rw [List.take_succ_eq_append_getElem hlt, List.any_append]; simp
    rw [tithebarnlaw11_ZoneSafe.l0, if_pos (by omega), hw]
    cases one with
    | true =>
      rw [if_pos rfl]
      exact ih k (n + 1) true (by omega) (by omega) (by rw [ht, ← ho]; rfl)
    | false =>
      rw [if_neg (by decide), if_pos (by omega), rdVz_at l n hlt]
      simp only [zone_Holds_c.f, Option.bind_some]
      exact ih k (n + 1) _ (by omega) (by omega) (by rw [ht, ← ho]; rfl)
theorem ZoneSafe_walk (W : World) (A0 : Option Addr) (c0 : Nat) (l0 : List (S27)) (hc0 : l0.length ≤ c0) (hr0 : Kd.C k27 W A0 l0.length l0) (b0 : BL B27 l0 maxLen) (x1 : S38) (b1 : B38 x1 maxLen) :
    Calls Try.prog 6 #[.slice A0 l0.length c0, .agg #[.int .i64 x1.f0, .int .i64 x1.f1, .bool x1.f2.f0, .int .i64 x1.f2.f1, .string x1.f2.f2]] W fun e W' => e = .returned (.bool true) ∧ Below W.heap.size W W' := by
  refine tithebarnlaw11_ZoneSafe.calls (l0.length + 1) A0 c0 l0 x1.f0 x1.f1 x1.f2.f0 x1.f2.f1 x1.f2.f2 true W hr0 hc0 ?_
  simp only [tithebarnlaw11_ZoneSafe.f, tithebarnlaw11_lives_c.f, Option.bind_some, if_true]
  exact safe_tells l0 x1 b0.1 l0.length (l0.length + 1) 0 false (by omega) (by omega) (by simp)

end Go.Proofs.Ytnfliommpdjlkaa.Pr
