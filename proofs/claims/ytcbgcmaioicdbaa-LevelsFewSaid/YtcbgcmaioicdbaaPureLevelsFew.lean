/- Parts of which no level has more than three are calm; with four more on level 0 they aren't, and the plan is of that level. -/
import Derived.Test.YtcbgcmaioicdbaaRdk
import Derived.Test.YtcbgcmaioicdbaaPr0
import Derived.Test.YtcbgcmaioicdbaaPrf15
import Derived.Test.YtcbgcmaioicdbaaPrf24
import Derived.Test.YtcbgcmaioicdbaaPrf7
import Derived.Test.YtcbgcmaioicdbaaPrzLev
import Derived.Test.YtcbgcmaioicdbaaPrzLev2
import Derived.Test.YtcbgcmaioicdbaaPrzLev3
namespace Go.Proofs.Ytcbgcmaioicdbaa.Pr
open Go.RowKit Go.Proofs.Ytcbgcmaioicdbaa.Brid Go.Proofs.YtcbgcmaioicdbaaW.PrintWords Go.Proofs.YtcbgcmaioicdbaaW.PrintLast Go.Proofs.YtcbgcmaioicdbaaW.PrintMore
set_option linter.unusedVariables false
set_option linter.unusedSimpArgs false
theorem onV_one (l : List Pt) (p : Pt) (a : Int) : (onV (l ++ [p]) a).length ≤ (onV l a).length + (if p.f1 = a then 1 else 0) := by
 unfold onV
 rw [List.filter_append, List.length_append]
 by_cases h : p.f1 = a
 ·rw [if_pos h]; have := List.length_filter_le (fun q : Pt => q.f1 == a) [p]; simp at this ⊢; omega
 ·rw [if_neg h, List.filter_cons_of_neg (by simpa using h)]; simp
theorem few_end (few : List Pt) (hl : few.length ≤ 100) (h3 : ∀ a, (onV few a).length ≤ 3) (k : Nat) (q : List Pt) (n : Nat) (hn : q.length ≤ n) : tithebarnlaw17_LevelsFew.l0 (k + 1) q few (n : Int) = some true := by
 have hcf : levels_Calm.f few = some true := by
  rw [calm.is few (by omega)]
  have : fullV few = none := by
   unfold fullV limV
   have h0 := h3 0
   have h1 := h3 1
   have h2 := h3 2
   rw [if_neg (by simp; omega), if_neg (by simp; omega), if_neg (by simp; omega)]
  rw [show fullR few = (0, false) by unfold fullR; rw [this]]; rfl
 obtain ⟨more, hm⟩ : ∃ more : List Pt, more = few ++ [⟨-1, 0, ⟨false, 0, ⟨#[]⟩⟩, ⟨false, 0, ⟨#[]⟩⟩⟩, ⟨-2, 0, ⟨false, 0, ⟨#[]⟩⟩, ⟨false, 0, ⟨#[]⟩⟩⟩, ⟨-3, 0, ⟨false, 0, ⟨#[]⟩⟩, ⟨false, 0, ⟨#[]⟩⟩⟩, ⟨-4, 0, ⟨false, 0, ⟨#[]⟩⟩, ⟨false, 0, ⟨#[]⟩⟩⟩] := ⟨_, rfl⟩
 have hml : more.length ≤ 200 := by rw [hm]; simp; omega
 have hf : fullV more = some 0 := by
  unfold fullV
  refine if_pos ?_
  rw [hm]
  unfold onV
  rw [List.filter_append, List.length_append]
  simp [limV]
 have hcm : levels_Calm.f more = some false := by
  rw [calm.is more (by omega), show fullR more = (0, true) by unfold fullR; rw [hf]; rfl]; rfl
 obtain ⟨x, t, h1, h2, h4, hp⟩ := pick_some more (by omega) 0 hf
 rw [tithebarnlaw17_LevelsFew.l0, if_neg (by omega), if_pos (by simp; omega)]
 simp only [Option.bind_some, List.nil_append]
 rw [if_pos (by simp; omega), ← hm, hp, Option.bind_some, hcf, Option.bind_some, if_pos rfl, hcm, Option.bind_some, if_neg (by decide)]
 rfl
theorem few_loop (q : List Pt) (hq : q.length ≤ 80) : ∀ (m n : Nat), q.length - n = m → n ≤ q.length → ∀ (few : List Pt), few.length ≤ n → (∀ a, (onV few a).length ≤ 3) → ∀ k, m + 100 < k → tithebarnlaw17_LevelsFew.l0 k q few (n : Int) = some true := by
 intro m
 induction m with
 | zero =>
  intro n hm hn few hf h3 k hk
  obtain ⟨k, rfl⟩ : ∃ k', k = k' + 1 := ⟨k - 1, by omega⟩
  exact few_end few (by omega) h3 k q n (by omega)
 | succ m ih =>
  intro n hm hn few hf h3 k hk
  obtain ⟨k, rfl⟩ : ∃ k', k = k' + 1 := ⟨k - 1, by omega⟩
  have hlt : n < q.length := by omega
  have hih := ih (n + 1) (by omega) (by omega) few (by omega) h3 k (by omega)
  rw [tithebarnlaw17_LevelsFew.l0, if_pos (by omega), if_pos (by omega), rdP_at q n hlt, wr_one n (by omega)]
  split
  ·split
   ·rw [refOf.is few _ (by omega) k (by omega), Option.bind_some]
    split
    ·rename_i h5
     rw [if_pos (by omega)]
     refine ih (n + 1) (by omega) (by omega) (few ++ [q[n]]) (by simp; omega) (fun a => ?_) k (by omega)
     have := onV_one few q[n] a
     have h3a := h3 a
     by_cases ha : q[n].f1 = a
     ·rw [if_pos ha] at this; rw [ha] at h5; omega
     ·rw [if_neg ha] at this; omega
    ·exact hih
   ·exact hih
  ·exact hih
theorem LevelsFew_true (k : Nat) (hk : 1000 ≤ k) (l0 : List Pt) : tithebarnlaw17_LevelsFew.f k l0 = some true := by
 unfold tithebarnlaw17_LevelsFew.f
 rw [lives17 k (by omega), Option.bind_some, if_pos rfl, early.is l0, Option.bind_some]
 have hlen : (l0.take 80).length ≤ 80 := by rw [List.length_take]; omega
 exact few_loop _ hlen (l0.take 80).length 0 (by omega) (by omega) [] (by simp) (by simp [onV]) k (by omega)
theorem LevelsFew_walk (W : World) (A0 : Option Addr) (c0 : Nat) (l0 : List (S38)) (hc0 : l0.length ≤ c0) (hr0 : Kd.C k38 W A0 l0.length l0) (b0 : BL B38 l0 maxLen) :
  Calls Try.prog 7 #[.slice A0 l0.length c0] W fun e W' => e = .returned (.bool true) ∧ Below W.heap.size W W' := by
 obtain ⟨g0, g1⟩ := b0
 exact tithebarnlaw17_LevelsFew.calls 1000000 A0 c0 l0 true W hr0 hc0 (LevelsFew_true 1000000 (by omega) l0)

end Go.Proofs.Ytcbgcmaioicdbaa.Pr
