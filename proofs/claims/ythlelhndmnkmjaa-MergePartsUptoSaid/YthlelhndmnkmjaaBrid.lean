/- What reads as data is told by the print's kinds: the way from a row's reading of its arguments to the walk's facts on them. -/
import Derived.Test.YthlelhndmnkmjaaRows
import Derived.Test.YthlelhndmnkmjaaWMore
import Derived.WalkKit
import Derived.ProofKit
import Derived.OpenShut
import Derived.JoinedCond
namespace Go.Proofs.Ythlelhndmnkmjaa.Brid
open Go.RowKit Go.WideShapes Go.Proofs.YthlelhndmnkmjaaW.PrintWords

/-- bounds that grow -/
def Mono {α : Type} (B : α → Nat → Prop) : Prop := ∀ x m n, m ≤ n → B x m → B x n
/-- what reads at type t is of the kind d; B: of which size -/
def Rd (P : Program) (t : TypeId) {α : Type} (d : Kd α) (B : α → Nat → Prop) : Prop :=
  ∀ (H : Type) (enc : TypeId × Value → H) (w : World) (spare : Nat → Bool) (fuel : Nat) (cs : List Value) (y : DataW H × List MemPlace),
    DataW.trod enc P w 0 spare true fuel t cs = some y → ∃ x, d.K w x cs ∧ B x maxLen ∧ B x (Rows.uptoBulk y.1)
def BI (k : IntKind) : Int → Nat → Prop := fun x _ => (Lit.int k x).wf = true
def BB : Bool → Nat → Prop := fun _ _ => True
def BS : ByteArray → Nat → Prop := fun s n => s.size ≤ n
def BL {α : Type} (B : α → Nat → Prop) : List α → Nat → Prop := fun l n => l.length ≤ n ∧ ∀ x ∈ l, B x n
def BP {α β : Type} (A : α → Nat → Prop) (B : β → Nat → Prop) : α × β → Nat → Prop := fun x n => A x.1 n ∧ B x.2 n
theorem mono_I (k : IntKind) : Mono (BI k) := fun _ _ _ _ h => h
theorem mono_B : Mono BB := fun _ _ _ _ h => h
theorem mono_S : Mono BS := fun _ _ _ h k => Nat.le_trans k h
theorem mono_L {α : Type} {B : α → Nat → Prop} (hB : Mono B) : Mono (BL B) := fun _ _ _ h k => ⟨Nat.le_trans k.1 h, fun x hx => hB x _ _ h (k.2 x hx)⟩
theorem mono_P {α β : Type} {A : α → Nat → Prop} {B : β → Nat → Prop} (hA : Mono A) (hB : Mono B) : Mono (BP A B) := fun _ _ _ h k => ⟨hA _ _ _ h k.1, hB _ _ _ h k.2⟩
theorem mono_iso {α β : Type} {B : α → Nat → Prop} (hB : Mono B) (f : β → α) : Mono (fun x => B (f x)) := fun _ _ _ h k => hB _ _ _ h k

variable {P : Program}
theorem rd_int {t : TypeId} {k : IntKind} (ht : P.underlying t = some (.int k)) : Rd P t (Kd.int k) (BI k) := by
  intro H enc w spare fuel cs y h
  obtain ⟨n, rfl, rfl, hw⟩ := DataW.trod_int ht h
  exact ⟨n, rfl, hw, hw⟩
theorem rd_bool {t : TypeId} (ht : P.underlying t = some .bool) : Rd P t Kd.bool BB := by
  intro H enc w spare fuel cs y h
  obtain ⟨n, rfl, rfl⟩ := DataW.trod_bool ht h
  exact ⟨n, rfl, trivial, trivial⟩
theorem rd_string {t : TypeId} (ht : P.underlying t = some .string) : Rd P t Kd.string BS := by
  intro H enc w spare fuel cs y h
  obtain ⟨s, rfl, rfl, hs⟩ := DataW.trod_string ht h
  refine ⟨s, rfl, hs, ?_⟩
  simp only [Rows.uptoBulk, Array.length_toList, BS]
  show s.size ≤ s.size + 1
  omega
theorem bulk_one {H : Type} (d : DataW H) : 1 ≤ Rows.uptoBulk d := by
  cases d with
  | lit l => cases l <;> simp [Rows.uptoBulk]
  | nil => simp [Rows.uptoBulk]
  | ptr d => simp [Rows.uptoBulk]
  | slice elems spare => simp [Rows.uptoBulk]
  | agg parts => simp [Rows.uptoBulk]
  | iface t d => simp [Rows.uptoBulk]
  | map entries => simp [Rows.uptoBulk]
  | held h => simp [Rows.uptoBulk]
theorem bulk_part {H : Type} {d : DataW H} {l : List (DataW H)} (h : d ∈ l) : Rows.uptoBulk d ≤ Rows.uptoBulkAll l := by
  induction l with
  | nil => cases h
  | cons x r ih =>
    simp only [Rows.uptoBulkAll]
    cases List.mem_cons.1 h with
    | inl e => subst e; omega
    | inr e => have := ih e; omega
theorem bulk_len {H : Type} (l : List (DataW H)) : l.length ≤ Rows.uptoBulkAll l := by
  induction l with
  | nil => simp [Rows.uptoBulkAll]
  | cons x r ih => have := bulk_one x; simp only [Rows.uptoBulkAll, List.length_cons]; omega
theorem cells_get {w : World} {a : Addr} {n : Nat} {cs : List Value} (h : w.cells? 0 a n = some cs) : cs.length = n ∧ ∀ i u, cs[i]? = some u → w.cell? (a.add i) = some u := by
  unfold World.cells? at h
  rw [if_pos (Nat.zero_le _)] at h
  have hl : cs.length = n := by simpa using mapM_some_length h
  refine ⟨hl, fun i u hu => ?_⟩
  have hi : i < n := by have := (List.getElem?_eq_some_iff.1 hu).1; omega
  have := mapM_some_get h i i (by simp [hi])
  rw [this]; exact hu
theorem addr_add_add (a : Addr) (i j : Nat) : (a.add i).add j = a.add (i + j) := by
  unfold Addr.add
  split <;> split <;> simp_all <;> omega
theorem rd_slice {t e : TypeId} {α : Type} {d : Kd α} {B : α → Nat → Prop} (ht : P.underlying t = some (.slice e)) (hs : P.cellsOf e = d.sz) (hB : Mono B) (hd : Rd P e d B) : Rd P t (Kd.slice e d) (BL B) := by
  intro H enc w spare fuel cs y h
  rcases DataW.trod_slice ht h with ⟨rfl, rfl⟩ | ⟨a, len, cap, elems, rest, n, rfl, rfl, rfl, _, hl, hc, hel, hget, _, _⟩
  · refine ⟨[], ⟨none, 0, rfl, Nat.le_refl _, rfl, by simp, fun h => absurd h (Nat.lt_irrefl _)⟩, ⟨Nat.zero_le _, fun x hx => by cases hx⟩, ⟨Nat.zero_le _, fun x hx => by cases hx⟩⟩
  · have each : ∀ i, i < len → ∃ x, (∃ c, c.length = d.sz ∧ d.K w x c ∧ ∀ j u, c[j]? = some u → w.cell? (a.add (i * d.sz + j)) = some u) ∧ B x maxLen ∧ ∃ q, elems[i]? = some q ∧ B x (Rows.uptoBulk q.1) := by
      intro i hi
      have hg := hget i hi
      have hq : elems[i]? = some elems[i] := List.getElem?_eq_getElem (by omega)
      rw [hq, Option.bind_eq_some_iff] at hg
      obtain ⟨c, hc1, hc2⟩ := hg
      obtain ⟨x, hK, h1, h2⟩ := hd H enc w spare n c _ hc2
      obtain ⟨hcl, hcell⟩ := cells_get hc1
      rw [hs] at hcl hcell
      refine ⟨x, ⟨c, hcl, hK, fun j u hu => ?_⟩, h1, _, hq, h2⟩
      rw [← addr_add_add]; exact hcell j u hu
    have all : ∀ m, m ≤ len → ∃ xs : List α, xs.length = m ∧ ∀ i p, xs[i]? = some p → (∃ c, c.length = d.sz ∧ d.K w p c ∧ ∀ j u, c[j]? = some u → w.cell? (a.add (i * d.sz + j)) = some u) ∧ B p maxLen ∧ ∃ q, elems[i]? = some q ∧ B p (Rows.uptoBulk q.1) := by
      intro m
      induction m with
      | zero => intro _; exact ⟨[], rfl, fun i p hp => by simp at hp⟩
      | succ m ih =>
        intro hm
        obtain ⟨xs, hxl, hx⟩ := ih (by omega)
        obtain ⟨x, hx1⟩ := each m (by omega)
        refine ⟨xs ++ [x], by simp [hxl], fun i p hp => ?_⟩
        by_cases hi : i < xs.length
        · rw [List.getElem?_append_left hi] at hp; exact hx i p hp
        · rw [List.getElem?_append_right (by omega)] at hp
          have hi2 : i - xs.length = 0 := by
            have := (List.getElem?_eq_some_iff.1 hp).1
            simp at this; omega
          rw [hi2] at hp
          simp at hp
          subst hp
          obtain rfl : i = m := by omega
          exact hx1
    obtain ⟨xs, hxl, hx⟩ := all len (Nat.le_refl _)
    have hmem : ∀ p, p ∈ xs → ∃ i, xs[i]? = some p := fun p hp => by obtain ⟨i, hi, rfl⟩ := List.mem_iff_getElem.1 hp; exact ⟨i, List.getElem?_eq_getElem hi⟩
    refine ⟨xs, ⟨some a, cap, by rw [hxl], by omega, ?_⟩, ⟨by omega, fun p hp => ?_⟩, ⟨?_, fun p hp => ?_⟩⟩
    · refine ⟨rfl, by rw [hxl]; simp only [maxLen] at hc; omega, fun _ => ⟨a, rfl, fun j p hp => (hx j p hp).1⟩⟩
    · obtain ⟨i, hi⟩ := hmem p hp; exact (hx i p hi).2.1
    · have := bulk_len (elems.map (·.1))
      simp only [Rows.uptoBulk]
      simp only [List.length_map] at this
      omega
    · obtain ⟨i, hi⟩ := hmem p hp
      obtain ⟨_, _, q, hq, hb⟩ := hx i p hi
      refine hB _ _ _ ?_ hb
      have hm : q.1 ∈ elems.map (·.1) := List.mem_map_of_mem (List.mem_of_getElem? hq)
      have := bulk_part hm
      simp only [Rows.uptoBulk]
      omega
/-- fields in line, from cell off on -/
def RdF (P : Program) (fs : List Field) (off : Nat) {α : Type} (d : Kd α) (B : α → Nat → Prop) : Prop :=
  ∀ (H : Type) (enc : TypeId × Value → H) (w : World) (spare : Nat → Bool) (n : Nat) (cs : List Value) (ys : List (DataW H × List MemPlace)),
    cs.length = off + d.sz → ys.length = fs.length → (∀ (i : Nat) (f : Field), fs[i]? = some f → DataW.trod enc P w 0 spare true n f.type ((cs.drop f.offset).take (P.cellsOf f.type)) = ys[i]?) →
    ∃ x, d.K w x (cs.drop off) ∧ B x maxLen ∧ B x (Rows.uptoBulkAll (ys.map (·.1)))
theorem rdf_one {f : Field} {off : Nat} {α : Type} {d : Kd α} {B : α → Nat → Prop} (ho : f.offset = off) (hs : P.cellsOf f.type = d.sz) (hB : Mono B) (hd : Rd P f.type d B) : RdF P [f] off d B := by
  intro H enc w spare n cs ys hl hy hr
  have h0 := hr 0 f rfl
  obtain ⟨q, rfl⟩ : ∃ q, ys = [q] := by
    match ys, hy with
    | [q], _ => exact ⟨q, rfl⟩
  rw [ho, hs, List.take_of_length_le (by simp; omega)] at h0
  obtain ⟨x, h1, h2, h3⟩ := hd H enc w spare n _ _ h0
  exact ⟨x, h1, h2, hB _ _ _ (by simp [Rows.uptoBulkAll]) h3⟩
theorem rdf_cons {f : Field} {fs : List Field} {off : Nat} {α β : Type} {d : Kd α} {d2 : Kd β} {B : α → Nat → Prop} {B2 : β → Nat → Prop} (ho : f.offset = off) (hs : P.cellsOf f.type = d.sz) (hB : Mono B) (hB2 : Mono B2) (hd : Rd P f.type d B)
    (hd2 : RdF P fs (off + d.sz) d2 B2) : RdF P (f :: fs) off (Kd.pair d d2) (BP B B2) := by
  intro H enc w spare n cs ys hl hy hr
  have h0 := hr 0 f rfl
  obtain ⟨q, qs, rfl⟩ : ∃ q qs, ys = q :: qs := by
    match ys, hy with
    | q :: qs, _ => exact ⟨q, qs, rfl⟩
  rw [ho, hs] at h0
  obtain ⟨x, h1, h2, h3⟩ := hd H enc w spare n _ _ h0
  have hl' : cs.length = off + (d.sz + d2.sz) := hl
  obtain ⟨x2, k1, k2, k3⟩ := hd2 H enc w spare n cs qs (by omega) (by simpa using hy) (fun i g hg => hr (i + 1) g hg)
  refine ⟨(x, x2), ⟨(cs.drop off).take d.sz, cs.drop (off + d.sz), ?_, h1, k1⟩, ⟨h2, k2⟩, hB _ _ _ ?_ h3, hB2 _ _ _ ?_ k3⟩
  · rw [← List.drop_drop, List.take_append_drop]
  · simp [Rows.uptoBulkAll]
  · simp [Rows.uptoBulkAll]
theorem rdf_iso {fs : List Field} {off : Nat} {α β : Type} {d : Kd α} {B : α → Nat → Prop} (f : β → α) (g : α → β) (hfg : ∀ x, f (g x) = x) (hd : RdF P fs off d B) : RdF P fs off (Kd.iso d f) (fun x => B (f x)) := by
  intro H enc w spare n cs ys hl hy hr
  obtain ⟨x, h1, h2, h3⟩ := hd H enc w spare n cs ys hl hy hr
  refine ⟨g x, ?_, ?_, ?_⟩
  · show d.K w (f (g x)) _; rw [hfg]; exact h1
  · show B (f (g x)) _; rw [hfg]; exact h2
  · show B (f (g x)) _; rw [hfg]; exact h3
theorem rd_struct {t : TypeId} {fs : Array Field} {α : Type} {d : Kd α} {B : α → Nat → Prop} (ht : P.underlying t = some (.struct fs)) (hs : P.cellsOf t = d.sz) (hB : Mono B) (hd : RdF P fs.toList 0 d B) : Rd P t d B := by
  intro H enc w spare fuel cs y h
  obtain ⟨xs, n, rfl, rfl, hl, hx, hr⟩ := DataW.trod_struct ht h
  obtain ⟨x, h1, h2, h3⟩ := hd H enc w spare n cs xs (by omega) (by simpa using hx) (fun i f hf => hr i f (by simpa using hf))
  refine ⟨x, h1, h2, hB _ _ _ ?_ h3⟩
  simp [Rows.uptoBulk]
/-- an argument that is a struct -/
theorem arg_struct {H : Type} {enc : TypeId × Value → H} {W : World} {base : Nat} {t : TypeId} {fs : Array Field} {v : Value} {dd : DataW H} {p : List MemPlace} {α : Type} {d : Kd α} {B : α → Nat → Prop}
    (ht : P.underlying t = some (.struct fs)) (hd : Rd P t d B) (hv : Value.okWide P W .any base t v) (h : DataW.Trod enc P W 0 (fun _ => true) true t v dd p) :
    ∃ cs x, v = .agg cs ∧ d.K W x cs.toList ∧ B x maxLen ∧ B x (Rows.uptoBulk dd) := by
  obtain ⟨cs, rfl, _⟩ := okWide_struct ht hv
  obtain ⟨fuel, hf⟩ := h
  obtain ⟨x, h1, h2, h3⟩ := hd H enc W _ fuel _ _ hf
  exact ⟨cs, x, rfl, h1, h2, h3⟩
/-- an argument that is a slice -/
theorem arg_slice {H : Type} {enc : TypeId × Value → H} {W : World} {base : Nat} {t e : TypeId} {v : Value} {dd : DataW H} {p : List MemPlace} {α : Type} {d : Kd α} {B : α → Nat → Prop}
    (ht : P.underlying t = some (.slice e)) (hs : P.cellsOf e = d.sz) (hB : Mono B) (hd : Rd P e d B) (hv : Value.okWide P W .any base t v) (h : DataW.Trod enc P W 0 (fun _ => true) true t v dd p) :
    ∃ A c xs, v = .slice A xs.length c ∧ xs.length ≤ c ∧ Kd.C d W A xs.length xs ∧ BL B xs maxLen ∧ BL B xs (Rows.uptoBulk dd) := by
  obtain ⟨a, len, cap, rfl⟩ := okWide_slice ht hv
  obtain ⟨fuel, hf⟩ := h
  obtain ⟨xs, ⟨A, c, h0, h1, h2⟩, h3, h4⟩ := rd_slice ht hs hB hd H enc W _ fuel _ _ hf
  simp only [Value.cells, List.cons.injEq, and_true] at h0
  exact ⟨A, c, xs, h0, h1, h2, h3, h4⟩
theorem arg_int {H : Type} {enc : TypeId × Value → H} {W : World} {base : Nat} {t : TypeId} {k : IntKind} {v : Value} {dd : DataW H} {p : List MemPlace}
    (ht : P.underlying t = some (.int k)) (hv : Value.okWide P W .any base t v) (h : DataW.Trod enc P W 0 (fun _ => true) true t v dd p) :
    ∃ n, v = .int k n ∧ (Lit.int k n).wf = true := by
  obtain ⟨n, rfl⟩ := okWide_int ht hv
  obtain ⟨fuel, hf⟩ := h
  obtain ⟨m, h1, _, h3⟩ := DataW.trod_int ht hf
  simp [Value.cells] at h1
  subst h1
  exact ⟨n, rfl, h3⟩
/-- an argument that is an array of two whole numbers -/
theorem arg_array2 {H : Type} {enc : TypeId × Value → H} {W : World} {base : Nat} {t e : TypeId} {k : IntKind} {v : Value} {dd : DataW H} {p : List MemPlace}
    (ht : P.underlying t = some (.array 2 e)) (he : P.underlying e = some (.int k)) (hs : P.cellsOf e = 1) (hs2 : P.cellsOf t = 2) (hv : Value.okWide P W .any base t v) (h : DataW.Trod enc P W 0 (fun _ => true) true t v dd p) :
    ∃ a b, v = .agg #[.int k a, .int k b] ∧ (Lit.int k a).wf = true ∧ (Lit.int k b).wf = true := by
  simp only [Value.okWide, ht] at hv
  obtain ⟨cs, rfl, hcs, _⟩ := hv
  obtain ⟨fuel, hf⟩ := h
  obtain ⟨xs, m, _, _, hl, hx, hr⟩ := DataW.trod_array ht hf
  have hl' : cs.toList.length = 2 := hl.trans hs2
  obtain ⟨c0, c1, hc⟩ : ∃ c0 c1, cs.toList = [c0, c1] := by
    match h : cs.toList, hl' with
    | [c0, c1], _ => exact ⟨c0, c1, rfl⟩
  have h0 := hr 0 (by omega)
  have h1 := hr 1 (by omega)
  have hcc : (Value.agg cs).cells.toList = cs.toList := rfl
  rw [hcc, hc, hs] at h0 h1
  obtain ⟨y0, hy0⟩ : ∃ y, xs[0]? = some y := ⟨_, List.getElem?_eq_getElem (by omega)⟩
  obtain ⟨y1, hy1⟩ : ∃ y, xs[1]? = some y := ⟨_, List.getElem?_eq_getElem (by omega)⟩
  rw [hy0] at h0
  rw [hy1] at h1
  obtain ⟨a, ha, _, hwa⟩ := DataW.trod_int he h0
  obtain ⟨b, hb, _, hwb⟩ := DataW.trod_int he h1
  simp at ha hb
  refine ⟨a, b, ?_, hwa, hwb⟩
  have : cs = #[c0, c1] := by apply Array.toList_inj.1; rw [hc]
  rw [this, ha, hb]
theorem trod_blocks {H : Type} {enc : TypeId × Value → H} {W : World} {t : TypeId} {v : Value} {dd : DataW H} {p : List MemPlace} (h : DataW.Trod enc P W 0 (fun _ => true) true t v dd p) : ∀ x ∈ p, x.block < W.heap.size := by
  obtain ⟨m, hm⟩ := h
  exact DataW.trod_lt m _ _ _ hm
end Go.Proofs.Ythlelhndmnkmjaa.Brid
