/- The law Zones: its walk, out of the contracts of what it calls. -/
import Derived.Test.YtnfliommpdjlkaaRdk
import Derived.Test.YtnfliommpdjlkaaPr0
import Derived.Test.YtnfliommpdjlkaaPrf22
import Derived.Test.YtnfliommpdjlkaaPrf23
import Derived.Test.YtnfliommpdjlkaaPrf25
import Derived.Test.YtnfliommpdjlkaaPrf46
import Derived.Test.YtnfliommpdjlkaaPrf47
import Derived.Test.YtnfliommpdjlkaaPrf49
import Derived.Test.YtnfliommpdjlkaaThy
namespace Go.Proofs.Ytnfliommpdjlkaa.Pr
open Go.RowKit Go.Proofs.Ytnfliommpdjlkaa.Brid Go.Proofs.YtnfliommpdjlkaaW.PrintWords Go.Proofs.YtnfliommpdjlkaaW.PrintLast Go.Proofs.YtnfliommpdjlkaaW.PrintMore
set_option linter.unusedVariables false
set_option linter.unusedSimpArgs false
def nnV (vs : List S27) : List S27 := vs.filter (fun v => !v.f0)
theorem nnV_append (a b : List S27) : nnV (a ++ b) = nnV a ++ nnV b := List.filter_append ..
theorem nnV_null {v : S27} {vs : List S27} (h : v ∈ nnV vs) : v.f0 = false := by
  have := (List.mem_filter.1 h).2
  simpa using this
theorem S_ext {a b : S27} (h0 : a.f0 = b.f0) (h1 : a.f1 = b.f1) (h2 : a.f2 = b.f2) : a = b := by cases a; cases b; simp_all
theorem lessV_irrefl (a : S27) : lessV a a = false := Thy.less_irrefl ..
theorem lessV_nt {a b c : S27} (h1 : lessV a b = false) (h2 : lessV b c = false) : lessV a c = false := Thy.notless_trans h1 h2
theorem lessV_asymm {a b : S27} (h : lessV a b = true) : lessV b a = false := Thy.less_asymm h
theorem lessV_total {a b : S27} (ha : a.f0 = false) (hb : b.f0 = false) (h1 : lessV a b = false) (h2 : lessV b a = false) : a = b := by
  unfold lessV at h1 h2
  have hz : Thy.cmpV a.f0 a.f1 a.f2 b.f0 b.f1 b.f2 = 0 := by
    have e1 : ¬ Thy.cmpV a.f0 a.f1 a.f2 b.f0 b.f1 b.f2 < 0 := fun h => by rw [Thy.cmpV_lt.1 h] at h1; cases h1
    have e2 : ¬ Thy.cmpV a.f0 a.f1 a.f2 b.f0 b.f1 b.f2 > 0 := fun h => by rw [Thy.cmpV_gt.1 h] at h2; cases h2
    omega
  rcases Thy.cmpV_zero.1 hz with ⟨h, _⟩ | ⟨_, _, e1, e2⟩
  · rw [ha] at h; cases h
  · exact S_ext (ha.trans hb.symm) e1 e2
theorem solid_id {v : S27} (h : v.f0 = false) : solidV v = v := S_ext h.symm rfl rfl
structure SaysZ (z : Zn) (vs : List S27) : Prop where
  nu : z.nu = vs.any (fun v => v.f0)
  va : z.va = true ↔ nnV vs ≠ []
  no : nnV vs = [] → z.lo = z27 ∧ z.hi = z27
  lo : nnV vs ≠ [] → z.lo ∈ nnV vs ∧ ∀ v ∈ nnV vs, lessV v z.lo = false
  hi : nnV vs ≠ [] → z.hi ∈ nnV vs ∧ ∀ v ∈ nnV vs, lessV z.hi v = false
theorem SaysZ.zero : SaysZ zeroZ [] := ⟨rfl, ⟨fun h => (Bool.false_ne_true h).elim, fun h => absurd rfl h⟩, fun _ => ⟨rfl, rfl⟩, fun h => absurd rfl h, fun h => absurd rfl h⟩
theorem SaysZ.va0 {z : Zn} {vs : List S27} (h : SaysZ z vs) (e : nnV vs = []) : z.va = false := by
  cases hv : z.va with
  | false => rfl
  | true => exact absurd e (h.va.1 hv)
theorem SaysZ.ord {z : Zn} {vs : List S27} (h : SaysZ z vs) (hn : nnV vs ≠ []) : ordV z = ⟨false, true, z.lo, z.hi⟩ := by
  obtain ⟨m1, l1⟩ := h.lo hn
  obtain ⟨m2, l2⟩ := h.hi hn
  unfold ordV spanV
  rw [solid_id (nnV_null m1), solid_id (nnV_null m2), l1 _ m2]
  rfl
theorem SaysZ.step {z x : Zn} {a b : List S27} (hz : SaysZ z a) (hx : SaysZ x b) : SaysZ (stepZ z x) (a ++ b) := by
  by_cases hb : nnV b = []
  · have e : stepZ z x = ⟨z.nu || x.nu, z.va, z.lo, z.hi⟩ := by unfold stepZ; rw [hx.va0 hb]; rfl
    rw [e]
    have hn : nnV (a ++ b) = nnV a := by rw [nnV_append, hb, List.append_nil]
    refine ⟨by rw [List.any_append, ← hz.nu, ← hx.nu], ?_, ?_, ?_, ?_⟩ <;> rw [hn]
    · exact hz.va
    · exact hz.no
    · exact hz.lo
    · exact hz.hi
  · have hxv := hx.va.2 hb
    obtain ⟨m2, l2⟩ := hx.lo hb
    obtain ⟨m4, l4⟩ := hx.hi hb
    by_cases ha : nnV a = []
    · have e : stepZ z x = ⟨z.nu || x.nu, true, x.lo, x.hi⟩ := by unfold stepZ; rw [hz.va0 ha, hxv, hx.ord hb]; rfl
      rw [e]
      have hn : nnV (a ++ b) = nnV b := by rw [nnV_append, ha, List.nil_append]
      refine ⟨by rw [List.any_append, ← hz.nu, ← hx.nu], ?_, ?_, ?_, ?_⟩ <;> rw [hn]
      · exact ⟨fun _ => hb, fun _ => rfl⟩
      · exact fun h => absurd h hb
      · exact hx.lo
      · exact hx.hi
    · have e : stepZ z x = ⟨z.nu || x.nu, true, if lessV x.lo z.lo then x.lo else z.lo, if lessV z.hi x.hi then x.hi else z.hi⟩ := by unfold stepZ; rw [if_pos hxv, if_pos (hz.va.2 ha), hx.ord hb]
      rw [e]
      obtain ⟨m1, l1⟩ := hz.lo ha
      obtain ⟨m3, l3⟩ := hz.hi ha
      have hne : nnV (a ++ b) ≠ [] := by rw [nnV_append]; intro h; exact ha (List.append_eq_nil_iff.1 h).1
      refine ⟨by rw [List.any_append, ← hz.nu, ← hx.nu], ⟨fun _ => hne, fun _ => rfl⟩, fun h => absurd h hne, fun _ => ?_, fun _ => ?_⟩ <;> rw [nnV_append]
      · by_cases hc : lessV x.lo z.lo = true
        · simp only [hc, if_true]
          refine ⟨List.mem_append_right _ m2, fun v hv => ?_⟩
          rcases List.mem_append.1 hv with hv | hv
          · exact lessV_nt (l1 v hv) (lessV_asymm hc)
          · exact l2 v hv
        · simp only [hc, if_false, Bool.false_eq_true]
          refine ⟨List.mem_append_left _ m1, fun v hv => ?_⟩
          rcases List.mem_append.1 hv with hv | hv
          · exact l1 v hv
          · exact lessV_nt (l2 v hv) (by simpa using hc)
      · by_cases hc : lessV z.hi x.hi = true
        · simp only [hc, if_true]
          refine ⟨List.mem_append_right _ m4, fun v hv => ?_⟩
          rcases List.mem_append.1 hv with hv | hv
          · exact lessV_nt (lessV_asymm hc) (l3 v hv)
          · exact l4 v hv
        · simp only [hc, if_false, Bool.false_eq_true]
          refine ⟨List.mem_append_left _ m3, fun v hv => ?_⟩
          rcases List.mem_append.1 hv with hv | hv
          · exact l3 v hv
          · exact lessV_nt (by simpa using hc) (l4 v hv)
theorem SaysZ.join {a b : Zn} {x y : List S27} (ha : SaysZ a x) (hb : SaysZ b y) : SaysZ (joinZ a b) (x ++ y) := by
  have := (SaysZ.zero.step ha).step hb
  rwa [List.nil_append] at this
theorem nnV_one {v : S27} (h : v.f0 = false) : nnV [v] = [v] := by simp [nnV, h]
theorem nnV_one0 {v : S27} (h : v.f0 = true) : nnV [v] = [] := by simp [nnV, h]
theorem SaysZ.span {v : S27} (h : v.f0 = false) : SaysZ (spanV v v) [v] := by
  have e : spanV v v = ⟨false, true, v, v⟩ := by unfold spanV; rw [solid_id h]
  rw [e]
  refine ⟨by simp [h], ?_, ?_, ?_, ?_⟩ <;> rw [nnV_one h]
  · exact ⟨fun _ => by simp, fun _ => rfl⟩
  · exact fun h => absurd h (by simp)
  · exact fun _ => ⟨List.mem_singleton.2 rfl, fun u hu => by rw [List.mem_singleton.1 hu]; exact lessV_irrefl v⟩
  · exact fun _ => ⟨List.mem_singleton.2 rfl, fun u hu => by rw [List.mem_singleton.1 hu]; exact lessV_irrefl v⟩
theorem SaysZ.null {z : Zn} {a : List S27} (h : SaysZ z a) {v : S27} (hv : v.f0 = true) : SaysZ ⟨true, z.va, z.lo, z.hi⟩ (a ++ [v]) := by
  have hn : nnV (a ++ [v]) = nnV a := by rw [nnV_append, nnV_one0 hv, List.append_nil]
  refine ⟨by simp [hv], ?_, ?_, ?_, ?_⟩ <;> rw [hn]
  · exact h.va
  · exact h.no
  · exact h.lo
  · exact h.hi
theorem SaysZ.add {z : Zn} {a : List S27} (h : SaysZ z a) (v : S27) : SaysZ (addZ z v) (a ++ [v]) := by
  unfold addZ
  by_cases hv : v.f0 = true
  · rw [if_pos hv]; exact h.null hv
  · rw [if_neg hv]; exact h.join (.span (by simpa using hv))
theorem SaysZ.radd {z : Zn} {a : List S27} (h : SaysZ z a) (v : S27) : SaysZ (addR z v) (a ++ [v]) := by
  unfold addR
  by_cases hv : v.f0 = true
  · rw [if_pos hv]; exact h.null hv
  · rw [if_neg hv]
    have hv' : v.f0 = false := by simpa using hv
    have hne : nnV (a ++ [v]) ≠ [] := by rw [nnV_append, nnV_one hv']; simp
    have hnu : z.nu = (a ++ [v]).any (fun v => v.f0) := by rw [List.any_append, ← h.nu]; simp [hv']
    by_cases ha : nnV a = []
    · rw [h.va0 ha]
      have hn : nnV (a ++ [v]) = [v] := by rw [nnV_append, ha, nnV_one hv']; rfl
      refine ⟨hnu, ⟨fun _ => hne, fun _ => rfl⟩, fun e => absurd e hne, fun _ => ?_, fun _ => ?_⟩ <;> rw [hn]
      · exact ⟨List.mem_singleton.2 rfl, fun u hu => by rw [List.mem_singleton.1 hu]; exact lessV_irrefl v⟩
      · exact ⟨List.mem_singleton.2 rfl, fun u hu => by rw [List.mem_singleton.1 hu]; exact lessV_irrefl v⟩
    · rw [h.va.2 ha]
      obtain ⟨m1, l1⟩ := h.lo ha
      obtain ⟨m3, l3⟩ := h.hi ha
      refine ⟨hnu, ⟨fun _ => hne, fun _ => rfl⟩, fun e => absurd e hne, fun _ => ?_, fun _ => ?_⟩ <;> rw [nnV_append, nnV_one hv'] <;> simp only [if_true]
      · by_cases hc : lessV v z.lo = true
        · rw [if_pos hc]
          refine ⟨List.mem_append_right _ (List.mem_singleton.2 rfl), fun u hu => ?_⟩
          rcases List.mem_append.1 hu with hu | hu
          · exact lessV_nt (l1 u hu) (lessV_asymm hc)
          · rw [List.mem_singleton.1 hu]; exact lessV_irrefl v
        · rw [if_neg hc]
          refine ⟨List.mem_append_left _ m1, fun u hu => ?_⟩
          rcases List.mem_append.1 hu with hu | hu
          · exact l1 u hu
          · rw [List.mem_singleton.1 hu]; simpa using hc
      · by_cases hc : lessV z.hi v = true
        · rw [if_pos hc]
          refine ⟨List.mem_append_right _ (List.mem_singleton.2 rfl), fun u hu => ?_⟩
          rcases List.mem_append.1 hu with hu | hu
          · exact lessV_nt (lessV_asymm hc) (l3 u hu)
          · rw [List.mem_singleton.1 hu]; exact lessV_irrefl v
        · rw [if_neg hc]
          refine ⟨List.mem_append_left _ m3, fun u hu => ?_⟩
          rcases List.mem_append.1 hu with hu | hu
          · exact l3 u hu
          · rw [List.mem_singleton.1 hu]; simpa using hc
theorem SaysZ.fold (f : Zn → S27 → Zn) (hf : ∀ z a v, SaysZ z a → SaysZ (f z v) (a ++ [v])) : ∀ (l : List S27) (z : Zn) (a : List S27), SaysZ z a → SaysZ (l.foldl f z) (a ++ l) := by
  intro l
  induction l with
  | nil => intro z a h; simpa using h
  | cons v r ih =>
    intro z a h
    have := ih (f z v) (a ++ [v]) (hf z a v h)
    rw [List.append_assoc] at this
    exact this
theorem SaysZ.of (l : List S27) : SaysZ (ofZ l) l := SaysZ.fold addZ (fun _ _ v h => h.add v) l zeroZ [] .zero
theorem SaysZ.rof (l : List S27) : SaysZ (ofR l) l := SaysZ.fold addR (fun _ _ v h => h.radd v) l zeroZ [] .zero
theorem SaysZ.only {a b : Zn} {x y : List S27} (ha : SaysZ a x) (hb : SaysZ b y) (hp : x.Perm y) : a = b := by
  have hn : (nnV x).Perm (nnV y) := hp.filter _
  have hnu : a.nu = b.nu := by
    rw [ha.nu, hb.nu, Bool.eq_iff_iff, List.any_eq_true, List.any_eq_true]
    exact ⟨fun ⟨v, hv, h⟩ => ⟨v, hp.mem_iff.1 hv, h⟩, fun ⟨v, hv, h⟩ => ⟨v, hp.mem_iff.2 hv, h⟩⟩
  have hlh : a.va = b.va ∧ a.lo = b.lo ∧ a.hi = b.hi := by
    by_cases h : nnV x = []
    · have h' : nnV y = [] := by rw [h] at hn; exact hn.symm.eq_nil
      obtain ⟨p1, p2⟩ := ha.no h
      obtain ⟨q1, q2⟩ := hb.no h'
      exact ⟨(ha.va0 h).trans (hb.va0 h').symm, p1.trans q1.symm, p2.trans q2.symm⟩
    · have h' : nnV y ≠ [] := fun e => h (by rw [e] at hn; exact hn.eq_nil)
      obtain ⟨p1, p2⟩ := ha.lo h
      obtain ⟨q1, q2⟩ := hb.lo h'
      obtain ⟨p3, p4⟩ := ha.hi h
      obtain ⟨q3, q4⟩ := hb.hi h'
      exact ⟨(ha.va.2 h).trans (hb.va.2 h').symm, lessV_total (nnV_null p1) (nnV_null q1) (q2 _ (hn.mem_iff.1 p1)) (p2 _ (hn.mem_iff.2 q1)), lessV_total (nnV_null p3) (nnV_null q3) (p4 _ (hn.mem_iff.2 q3)) (q4 _ (hn.mem_iff.1 p3))⟩
  obtain ⟨h1, h2, h3⟩ := hlh
  cases a; cases b
  simp_all

end Go.Proofs.Ytnfliommpdjlkaa.Pr
