-- printed by xprint.py (this seat's own program, over the kit's print.py); not trusted: Lean checks it
import Derived.Test.YtknkncidlfobiaaPr0
import Derived.Test.YtknkncidlfobiaaPrf38
import Derived.Shelf.AbstractIn
namespace Go.Proofs.Ytknkncidlfobiaa.Pr
open Go.RowKit Go.Proofs.YtknkncidlfobiaaW.PrintWords Go.Proofs.YtknkncidlfobiaaW.PrintLast Go.Proofs.YtknkncidlfobiaaW.PrintMore
attribute [local go_sem] max2_int min2_int max_two min_two max_three min_three max_four min_four   -- for this text's walks alone
set_option linter.unusedVariables false
set_option linter.unusedSimpArgs false

/-! ### containsOdd: function 39 -/
--@label c
--@import Derived.Shelf.AbstractIn
def idxF {α : Type} (p : α → Bool) (l : List α) : Int := match l.findIdx? p with | some i => (i : Int) | none => -1
theorem idxF_hit {α : Type} (p : α → Bool) (l : List α) (k : Nat) (x : α) (hx : l[k]? = some x) (hp : p x = true) (hb : ∀ j y, j < k → l[j]? = some y → p y = false) : idxF p l = k := by
  have : l.findIdx? p = some k := by
    rw [List.findIdx?_eq_some_iff_getElem]
    obtain ⟨hk, he⟩ := List.getElem?_eq_some_iff.1 hx
    exact ⟨hk, by rw [he]; exact hp, fun j hj => by simpa using hb j l[j] hj (List.getElem?_eq_getElem _)⟩
  simp [idxF, this]
theorem idxF_miss {α : Type} (p : α → Bool) (l : List α) (hb : ∀ j y, j < l.length → l[j]? = some y → p y = false) : idxF p l = -1 := by
  have : l.findIdx? p = none := by
    rw [List.findIdx?_eq_none_iff]
    intro x hx
    obtain ⟨j, hj, rfl⟩ := List.mem_iff_getElem.1 hx
    exact hb j _ hj (List.getElem?_eq_getElem _)
  simp [idxF, this]
theorem idxF_any {α : Type} (p : α → Bool) (l : List α) : decide (0 ≤ idxF p l) = l.any p := by
  unfold idxF
  cases h : l.findIdx? p with
  | none =>
    rw [List.findIdx?_eq_none_iff] at h
    simp
    exact h
  | some i =>
    rw [List.findIdx?_eq_some_iff_getElem] at h
    obtain ⟨hi, hp, _⟩ := h
    simp
    exact ⟨_, List.getElem_mem hi, hp⟩
set_option maxHeartbeats 4000000 in
set_option maxRecDepth 100000 in
theorem IndexFunc_Col (p : S42 → Bool) (g : Nat) (lb : Array Value) (eg : ∀ args w, (callFunc g args).run Try.prog w = .ok (.enter g args) w)
   (A0 : Option Addr) (c0 : Nat) (l0 : List S42) (w : World) (hr0 : Kd.C k42 w A0 l0.length l0)
   (hp : ∀ (W : World) (x : S42), Below w.heap.size w W → Calls Try.prog g (#[.agg #[.int .i64 x.f0, .bool x.f1]] ++ lb) W fun e W' => e = .returned (.bool (p x)) ∧ Below W.heap.size W W') :
   Calls Try.prog 50 #[.slice A0 l0.length c0, .func (.func g) #[] lb] w fun e w' => e = .returned (.int .i64 (idxF p l0)) ∧ Below w.heap.size w w' := by
  have HR0 := Aside0.mk hr0
  have hlen : l0.length ≤ 9223372036854775807 := hr0.2.1
  have HP := Aside0.mk hp
  clear hr0 hp
  go_enter Try.func50, Try.ntmps50
  go_wp2
  go_loopg [5, 8] l0.length (fun gg _ s8 wr => ∃ kk : Nat, kk ≤ l0.length ∧ l0.length - kk ≤ gg ∧ s8 = .int .i64 kk ∧ Aside0 (Below w.heap.size w wr) ∧ Aside0 (∀ j y, j < kk → l0[j]? = some y → p y = false))
  case atStart => exact ⟨0, Nat.zero_le _, by omega, rfl, ⟨Below.refl _ w⟩, ⟨fun j y hj => absurd hj (Nat.not_lt_zero _)⟩⟩
  case round =>
    obtain ⟨kk, hkk, hg, rfl, BW, A⟩ := hrel
    by_cases hlt : kk < l0.length
    · have hltz : (kk : Int) < (l0.length : Int) := by omega
      obtain ⟨ad, e0, hx0, hx1⟩ := at_T42 HR0.out (kk : Int) (by omega) hltz
      cases e0
      have gx : l0[kk]? = some (rd_T42 l0 kk) := by simp [rd_T42, List.getD_eq_getElem?_getD, List.getElem?_eq_getElem hlt]
      have l0' := (Below.cell BW.out (World.block_lt_of_cell? _ _ hx0)).trans hx0
      have l1' := (Below.cell BW.out (World.block_lt_of_cell? _ _ hx1)).trans hx1
      clear hx0 hx1
      simp only [Int.toNat_natCast] at l0' l1'
      have hcall := HP.out wr (rd_T42 l0 kk) BW.out
      have GX := Aside0.mk gx
      clear gx
      generalize rd_T42 l0 kk = y at l0' l1' hcall GX
      cases hq : p y with
      | true =>
        rw [hq] at hcall
        have HQ := Aside0.mk hq
        clear hq
        go_wp2_with (go_at_fn g; refine hcall.mono ?_; rintro e w' ⟨rfl, hb'⟩)
        go_ret
        exact ⟨by rw [idxF_hit p l0 kk y GX.out HQ.out A.out]; rfl, below_then BW.out BW.out.size hb'⟩
      | false =>
        rw [hq] at hcall
        have HQ := Aside0.mk hq
        clear hq
        go_wp2_with (go_at_fn g; refine hcall.mono ?_; rintro e w' ⟨rfl, hb'⟩)
        go_roundg (l0.length - (kk + 1))
        case measure => omega
        case rel =>
          refine ⟨kk + 1, by omega, by omega, by go_num, ⟨below_then BW.out BW.out.size hb'⟩, ⟨fun j z hj hz => ?_⟩⟩
          by_cases e : j = kk
          · subst e
            rw [GX.out] at hz
            cases hz
            exact HQ.out
          · exact A.out j z (by omega) hz
    · have hltz : ¬ (kk : Int) < (l0.length : Int) := by omega
      have : kk = l0.length := by omega
      subst this
      go_wp2
      go_ret
      exact ⟨by rw [idxF_miss p l0 A.out]; rfl, BW.out⟩
/-- slices.ContainsFunc over columns, whatever the predicate -/
theorem ContainsFunc_Col (p : S42 → Bool) (g : Nat) (lb : Array Value) (eg : ∀ args w, (callFunc g args).run Try.prog w = .ok (.enter g args) w)
   (A0 : Option Addr) (c0 : Nat) (l0 : List S42) (w : World) (hr0 : Kd.C k42 w A0 l0.length l0)
   (hp : ∀ (W : World) (x : S42), Below w.heap.size w W → Calls Try.prog g (#[.agg #[.int .i64 x.f0, .bool x.f1]] ++ lb) W fun e W' => e = .returned (.bool (p x)) ∧ Below W.heap.size W W') :
   Calls Try.prog 39 #[.slice A0 l0.length c0, .func (.func g) #[] lb] w fun e w' => e = .returned (.bool (l0.any p)) ∧ Below w.heap.size w w' := by
  rw [← idxF_any p l0]
  have C := IndexFunc_Col p g lb eg A0 c0 l0 w hr0 hp
  clear hr0 hp eg
  go_enter Try.func39, Try.ntmps39
  go_wp2_with (go_at_call 50; refine C.mono ?_; rintro e w' ⟨rfl, hb'⟩)
  go_ret
  exact ⟨rfl, hb'⟩
def odd (x : S42) : Bool := (x.f0 != 1) && (x.f0 != 2)
def containsOdd.f (l0 : List S42) : Option Bool := some (l0.any odd)
theorem containsOdd.calls (A0 : Option Addr) (c0 : Nat) (l0 : List S42) (r : Bool) (w : World) (hr0 : Kd.C k42 w A0 l0.length l0) (hc0 : l0.length ≤ c0) (h : containsOdd.f l0 = some r) :
    Calls Try.prog 39 #[.slice A0 l0.length c0, .func (.func 38) #[] #[]] w fun e w' => e = .returned (.bool r) ∧ Below w.heap.size w w' := by
  obtain rfl := Option.some.inj h
  refine ContainsFunc_Col odd 38 #[] (enters_of Try.func38 (by kernel_rfl) rfl) A0 c0 l0 w hr0 (fun W x hb => ?_)
  refine (kinds_Right_1.calls x.f0 x.f1 (odd x) W ?_)
  unfold kinds_Right_1.f odd
  by_cases h1 : x.f0 = 1 <;> by_cases h2 : x.f0 = 2 <;> simp [h1, h2]


end Go.Proofs.Ytknkncidlfobiaa.Pr
