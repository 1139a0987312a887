-- printed by xprint.py (this seat's own program, over the kit's print.py); not trusted: Lean checks it
import Derived.Test.YtknkncidlfobiaaPr0
import Derived.Test.YtknkncidlfobiaaPrf45
import Derived.Shelf.AbstractIn
namespace Go.Proofs.Ytknkncidlfobiaa.Pr
open Go.RowKit Go.Proofs.YtknkncidlfobiaaW.PrintWords Go.Proofs.YtknkncidlfobiaaW.PrintLast Go.Proofs.YtknkncidlfobiaaW.PrintMore
attribute [local go_sem] max2_int min2_int max_two min_two max_three min_three max_four min_four   -- for this text's walks alone
set_option linter.unusedVariables false
set_option linter.unusedSimpArgs false

/-! ### containsNone: function 43 -/
--@label c
--@import Derived.Shelf.AbstractIn
def idxI (p : Int → Bool) (l : List Int) : Int := match l.findIdx? p with | some i => (i : Int) | none => -1
theorem idxI_hit (p : Int → Bool) (l : List Int) (k : Nat) (x : Int) (hx : l[k]? = some x) (hp : p x = true) (hb : ∀ j y, j < k → l[j]? = some y → p y = false) : idxI p l = k := by
  have : l.findIdx? p = some k := by
    rw [List.findIdx?_eq_some_iff_getElem]
    obtain ⟨hk, he⟩ := List.getElem?_eq_some_iff.1 hx
    exact ⟨hk, by rw [he]; exact hp, fun j hj => by simpa using hb j l[j] hj (List.getElem?_eq_getElem _)⟩
  simp [idxI, this]
theorem idxI_miss (p : Int → Bool) (l : List Int) (hb : ∀ j y, j < l.length → l[j]? = some y → p y = false) : idxI p l = -1 := by
  have : l.findIdx? p = none := by
    rw [List.findIdx?_eq_none_iff]
    intro x hx
    obtain ⟨j, hj, rfl⟩ := List.mem_iff_getElem.1 hx
    exact hb j _ hj (List.getElem?_eq_getElem _)
  simp [idxI, this]
theorem idxI_any (p : Int → Bool) (l : List Int) : decide (0 ≤ idxI p l) = l.any p := by
  unfold idxI
  cases h : l.findIdx? p with
  | none =>
    rw [List.findIdx?_eq_none_iff] at h
    simp
    exact h
  | some i =>
    rw [List.findIdx?_eq_some_iff_getElem] at h
    obtain ⟨hi, hp, _⟩ := h
    simp
    exact ⟨_, List.getElem_mem hi, hp⟩
set_option maxHeartbeats 4000000 in
set_option maxRecDepth 100000 in
theorem IndexFunc_int (p : Int → Bool) (g : Nat) (lb : Array Value) (eg : ∀ args w, (callFunc g args).run Try.prog w = .ok (.enter g args) w)
   (A0 : Option Addr) (c0 : Nat) (l0 : List Int) (w : World) (hr0 : Kd.C (Kd.int .i64) w A0 l0.length l0)
   (hp : ∀ (W : World) (x : Int), Below w.heap.size w W → Calls Try.prog g (#[.int .i64 x] ++ lb) W fun e W' => e = .returned (.bool (p x)) ∧ Below W.heap.size W W') :
   Calls Try.prog 51 #[.slice A0 l0.length c0, .func (.func g) #[] lb] w fun e w' => e = .returned (.int .i64 (idxI p l0)) ∧ Below w.heap.size w w' := by
  have HR0 := Aside0.mk hr0
  have hlen : l0.length ≤ 9223372036854775807 := hr0.2.1
  have HP := Aside0.mk hp
  clear hr0 hp
  go_enter Try.func51, Try.ntmps51
  go_wp2
  go_loopg [5, 8] l0.length (fun gg _ s8 wr => ∃ kk : Nat, kk ≤ l0.length ∧ l0.length - kk ≤ gg ∧ s8 = .int .i64 kk ∧ Aside0 (Below w.heap.size w wr) ∧ Aside0 (∀ j y, j < kk → l0[j]? = some y → p y = false))
  case atStart => exact ⟨0, Nat.zero_le _, by omega, rfl, ⟨Below.refl _ w⟩, ⟨fun j y hj => absurd hj (Nat.not_lt_zero _)⟩⟩
  case round =>
    obtain ⟨kk, hkk, hg, rfl, BW, A⟩ := hrel
    by_cases hlt : kk < l0.length
    · have hltz : (kk : Int) < (l0.length : Int) := by omega
      obtain ⟨ad, e0, hx0⟩ := Kd.at_int HR0.out (kk : Int) (by omega) hltz
      cases e0
      have gx : l0[kk]? = some (rd l0 kk) := by simp [rd, List.getD_eq_getElem?_getD, List.getElem?_eq_getElem hlt]
      have l0' := (Below.cell BW.out (World.block_lt_of_cell? _ _ hx0)).trans hx0
      clear hx0
      simp only [Int.toNat_natCast] at l0'
      have hcall := HP.out wr (rd l0 kk) BW.out
      have GX := Aside0.mk gx
      clear gx
      generalize rd l0 kk = y at l0' hcall GX
      cases hq : p y with
      | true =>
        rw [hq] at hcall
        have HQ := Aside0.mk hq
        clear hq
        go_wp2_with (go_at_fn g; refine hcall.mono ?_; rintro e w' ⟨rfl, hb'⟩)
        go_ret
        exact ⟨by rw [idxI_hit p l0 kk y GX.out HQ.out A.out]; rfl, below_then BW.out BW.out.size hb'⟩
      | false =>
        rw [hq] at hcall
        have HQ := Aside0.mk hq
        clear hq
        go_wp2_with (go_at_fn g; refine hcall.mono ?_; rintro e w' ⟨rfl, hb'⟩)
        go_roundg (l0.length - (kk + 1))
        case measure => omega
        case rel =>
          refine ⟨kk + 1, by omega, by omega, by go_num, ⟨below_then BW.out BW.out.size hb'⟩, ⟨fun j z hj hz => ?_⟩⟩
          by_cases e : j = kk
          · subst e
            rw [GX.out] at hz
            cases hz
            exact HQ.out
          · exact A.out j z (by omega) hz
    · have hltz : ¬ (kk : Int) < (l0.length : Int) := by omega
      have : kk = l0.length := by omega
      subst this
      go_wp2
      go_ret
      exact ⟨by rw [idxI_miss p l0 A.out]; rfl, BW.out⟩
/-- slices.ContainsFunc over whole numbers, whatever the predicate -/
theorem ContainsFunc_int (p : Int → Bool) (g : Nat) (lb : Array Value) (eg : ∀ args w, (callFunc g args).run Try.prog w = .ok (.enter g args) w)
   (A0 : Option Addr) (c0 : Nat) (l0 : List Int) (w : World) (hr0 : Kd.C (Kd.int .i64) w A0 l0.length l0)
   (hp : ∀ (W : World) (x : Int), Below w.heap.size w W → Calls Try.prog g (#[.int .i64 x] ++ lb) W fun e W' => e = .returned (.bool (p x)) ∧ Below W.heap.size W W') :
   Calls Try.prog 43 #[.slice A0 l0.length c0, .func (.func g) #[] lb] w fun e w' => e = .returned (.bool (l0.any p)) ∧ Below w.heap.size w w' := by
  rw [← idxI_any p l0]
  have C := IndexFunc_int p g lb eg A0 c0 l0 w hr0 hp
  clear hr0 hp eg
  go_enter Try.func43, Try.ntmps43
  go_wp2_with (go_at_call 51; refine C.mono ?_; rintro e w' ⟨rfl, hb'⟩)
  go_ret
  exact ⟨rfl, hb'⟩
/-- has a row no such column? -/
def noneB (r : List S23) (c : Int) : Bool := decide (c < 0) || decide ((r.length : Int) ≤ c)
theorem sums_none.is (r : List S23) (c : Int) : sums_none.f r c = some (noneB r c) := by
  unfold sums_none.f noneB
  by_cases h : c < 0 <;> simp [h]
theorem Project_1.calls (gb : Nat) (Ar : Option Addr) (cr : Nat) (r : List S23) (c : Int) (w : World) (hb : w.heap[gb]? = some (.cells #[.slice Ar r.length cr] 34 (0, 0))) (hr : Kd.C k23 w Ar r.length r) (hcr : r.length ≤ cr) :
    Calls Try.prog 44 #[.int .i64 c, .pointer (some ⟨gb, 0, none⟩)] w fun e w' => e = .returned (.bool (noneB r c)) ∧ Below w.heap.size w w' := by
  have hc0 : w.cell? ⟨gb, 0, none⟩ = some (.slice Ar r.length cr) := (blk_cell hb 0).trans rfl
  have C := sums_none.calls Ar cr r c (noneB r c) w hr hcr (sums_none.is r c)
  clear hb hr
  go_enter Try.func44, Try.ntmps44
  go_wp2_with (go_at_call 45; refine C.mono ?_; rintro e w' ⟨rfl, ⟨nd, rfl⟩⟩)
  go_ret
  exact ⟨rfl, Drawn0.below ⟨⟨nd, rfl⟩⟩⟩
def containsNone.f (l0 : List Int) (r : List S23) : Option Bool := some (l0.any (noneB r))
theorem containsNone.calls (A0 : Option Addr) (c0 : Nat) (l0 : List Int) (gb : Nat) (Ar : Option Addr) (cr : Nat) (r : List S23) (b : Bool) (w : World) (hr0 : Kd.C (Kd.int .i64) w A0 l0.length l0) (hc0 : l0.length ≤ c0)
    (hb : w.heap[gb]? = some (.cells #[.slice Ar r.length cr] 34 (0, 0))) (hr : Kd.C k23 w Ar r.length r) (hcr : r.length ≤ cr) (h : containsNone.f l0 r = some b) :
    Calls Try.prog 43 #[.slice A0 l0.length c0, .func (.func 44) #[] #[.pointer (some ⟨gb, 0, none⟩)]] w fun e w' => e = .returned (.bool b) ∧ Below w.heap.size w w' := by
  obtain rfl := Option.some.inj h
  refine ContainsFunc_int (noneB r) 44 _ (enters_of Try.func44 (by kernel_rfl) rfl) A0 c0 l0 w hr0 (fun W x hB => ?_)
  exact Project_1.calls gb Ar cr r x W ((hB.block gb (blk_lt hb)).trans hb) (Kd.C_below hr hB) hcr


end Go.Proofs.Ytknkncidlfobiaa.Pr
