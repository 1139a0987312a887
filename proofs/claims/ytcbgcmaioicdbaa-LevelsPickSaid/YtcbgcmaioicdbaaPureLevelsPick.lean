/- The plan for parts, or that there is none, whether levels are disjoint, whether all is calm, is what the document says. -/
import Derived.Test.YtcbgcmaioicdbaaRdk
import Derived.Test.YtcbgcmaioicdbaaPr0
import Derived.Test.YtcbgcmaioicdbaaPrf16
import Derived.Test.YtcbgcmaioicdbaaPrf3
import Derived.Test.YtcbgcmaioicdbaaPrzLev
import Derived.Test.YtcbgcmaioicdbaaPrzLev2
import Derived.Test.YtcbgcmaioicdbaaPrzLev3
namespace Go.Proofs.Ytcbgcmaioicdbaa.Pr
open Go.RowKit Go.Proofs.Ytcbgcmaioicdbaa.Brid Go.Proofs.YtcbgcmaioicdbaaW.PrintWords Go.Proofs.YtcbgcmaioicdbaaW.PrintLast Go.Proofs.YtcbgcmaioicdbaaW.PrintMore
set_option linter.unusedVariables false
set_option linter.unusedSimpArgs false
theorem LevelsPick_true (k : Nat) (hk : 50000 ≤ k) (l0 : List Pt) (hok : ∀ p ∈ l0, OkP p) : tithebarnlaw17_LevelsPick.f k l0 = some true := by
 unfold tithebarnlaw17_LevelsPick.f
 rw [lives17 k (by omega), Option.bind_some, if_pos rfl, early.is l0, Option.bind_some]
 have hlen : (l0.take 80).length ≤ 80 := by rw [List.length_take]; omega
 have hok2 : ∀ p ∈ l0.take 80, OkP p := fun p hp => hok p (List.mem_of_mem_take hp)
 generalize l0.take 80 = q at hlen hok2
 obtain ⟨r, hr⟩ := pick_is q (by omega)
 have hi := pick_ids q (by omega) r hr
 have e5 : (r.2.2.2.2 == r.2.2.2.2) = true := beq_self_eq_true _
 have ed : (disV q == disV q) = true := beq_self_eq_true _
 have ec : tithebarnref17_Calm.f k q = some (!r.2.2.2.2) := by
  unfold tithebarnref17_Calm.f
  rw [refPick.is q hlen hok2 k (by omega), hr]; rfl
 rw [hr, Option.bind_some, refPick.is q hlen hok2 k (by omega), hr, Option.bind_some, if_pos e5, same.is r.2.2.1 r.1 r.2.1 r.2.2.2.1 (by omega) k (by omega), Option.bind_some, if_pos rfl,
  disj.is q (by omega) k (by omega), refDisj.is q hlen hok2 k (by omega), Option.bind_some, Option.bind_some, if_pos ed, calm.is q (by omega), ec, Option.bind_some, Option.bind_some, pick_full q (by omega) r hr, beq_self_eq_true]
theorem LevelsPick_walk (W : World) (A0 : Option Addr) (c0 : Nat) (l0 : List (S38)) (hc0 : l0.length ≤ c0) (hr0 : Kd.C k38 W A0 l0.length l0) (b0 : BL B38 l0 maxLen) :
  Calls Try.prog 3 #[.slice A0 l0.length c0] W fun e W' => e = .returned (.bool true) ∧ Below W.heap.size W W' := by
 obtain ⟨g0, g1⟩ := b0
 exact tithebarnlaw17_LevelsPick.calls 1000000 A0 c0 l0 true W hr0 hc0 (LevelsPick_true 1000000 (by omega) l0 (okP_of (Nat.le_refl _) g1))

end Go.Proofs.Ytcbgcmaioicdbaa.Pr
