import Derived.Test.YtcbgcmaioicdbaaWWords
import Derived.RangeFuncRecord
open Go Go.RowKit
namespace Go.Proofs.YtcbgcmaioicdbaaW.PrintWords
theorem Kd.V_away {α : Type} {d : Kd α} {e base n c g : Nat} {W : World} {ok : Nat → Prop} {ad : Addr} {xs : List α} (h : Kd.V d e W base ok (.slice (some ad) n c) xs) (hok : ∀ k, ok k → k ≠ g) (hn : 0 < n := by omega) (hs : 0 < d.sz := by decide) :
    some g ≠ (Value.slice (some ad) n c).ownBlock := by
  intro he
  have hg : g = ad.block := by simpa [Value.ownBlock] using he
  subst hg
  have hl : n = xs.length := (Kd.V_at h).1
  obtain ⟨z, r, hx⟩ : ∃ z r, xs = z :: r := by
    cases xs with
    | nil => simp at hl; omega
    | cons z r => exact ⟨z, r, rfl⟩
  have hf := Kd.F_step (W1 := W.putObj ad.block (.deferred none)) (Kd.V_F h) (fun k hk _ => World.putObj_heap_other (hok k hk))
  obtain ⟨ad', cs, e1, hc, _, hr⟩ := Kd.C_get (Kd.F_now hf) z 0 (Int.le_refl _) (by omega)
  cases e1
  obtain ⟨u, hu⟩ : ∃ u, cs[0]? = some u := ⟨cs[0], List.getElem?_eq_getElem (by omega)⟩
  have h1 := hr 0 u hu
  have hb : (ad.add ((0 : Int).toNat * d.sz + 0)).block = ad.block := by simp [Addr.add]
  unfold World.cell? at h1
  rw [hb] at h1
  by_cases hlt : ad.block < W.heap.size
  · rw [World.putObj_heap_same hlt] at h1; simp at h1
  · rw [Array.getElem?_eq_none (by simpa using hlt)] at h1; simp at h1
end Go.Proofs.YtcbgcmaioicdbaaW.PrintWords
