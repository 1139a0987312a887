-- printed by xprint.py (this seat's own program, over the kit's print.py); not trusted: Lean checks it
import Derived.Test.YtnfliommpdjlkaaPr0
import Derived.Test.YtnfliommpdjlkaaPrE27
import Derived.Test.YtnfliommpdjlkaaPrf25
import Derived.Test.YtnfliommpdjlkaaPrf22
import Derived.Test.YtnfliommpdjlkaaPrf19
import Derived.Test.YtnfliommpdjlkaaPrf26
namespace Go.Proofs.Ytnfliommpdjlkaa.Pr
open Go.RowKit Go.Proofs.YtnfliommpdjlkaaW.PrintWords Go.Proofs.YtnfliommpdjlkaaW.PrintLast Go.Proofs.YtnfliommpdjlkaaW.PrintMore
attribute [local go_sem] max2_int min2_int max_two min_two max_three min_three max_four min_four   -- for this text's walks alone
set_option linter.unusedVariables false
set_option linter.unusedSimpArgs false

attribute [local go_sem high] eqA41
/-! ### tithebarnlaw11_ZoneJoin: function 7 -/
def tithebarnlaw11_ZoneJoin.f (l0 : List (S27)) (l1 : List (S27)) : Option (Bool) := (tithebarnlaw11_lives_c.f).bind fun t257 => (if t257 = true then (if ([] : List (S27)).length + l0.length < 4398046511104 then ((some (([] : List (S27)) ++ l0 : List (S27))).bind fun y258 => (if y258.length + l1.length < 4398046511104 then ((some (y258 ++ l1 : List (S27))).bind fun y261 => ((zone_Of_c.f l0).bind fun bt264 => ((zone_Of_c.f l1).bind fun bt272 => ((zone_Of_c.f y261).bind fun bt282 => ((zone_Join_c.f bt264.1 bt264.2.1 bt264.2.2.1 bt264.2.2.2.1 bt264.2.2.2.2.1 bt264.2.2.2.2.2.1 bt264.2.2.2.2.2.2.1 bt264.2.2.2.2.2.2.2 bt272.1 bt272.2.1 bt272.2.2.1 bt272.2.2.2.1 bt272.2.2.2.2.1 bt272.2.2.2.2.2.1 bt272.2.2.2.2.2.2.1 bt272.2.2.2.2.2.2.2).bind fun bt290 => (if (bt282.1 == bt290.1 && (bt282.2.1 == bt290.2.1 && ((bt282.2.2.1 == bt290.2.2.1 && (bt282.2.2.2.1 == bt290.2.2.2.1 && (bt282.2.2.2.2.1.toList == bt290.2.2.2.2.1.toList))) && ((bt282.2.2.2.2.2.1 == bt290.2.2.2.2.2.1 && (bt282.2.2.2.2.2.2.1 == bt290.2.2.2.2.2.2.1 && (bt282.2.2.2.2.2.2.2.toList == bt290.2.2.2.2.2.2.2.toList))))))) = true then ((zone_Join_c.f bt272.1 bt272.2.1 bt272.2.2.1 bt272.2.2.2.1 bt272.2.2.2.2.1 bt272.2.2.2.2.2.1 bt272.2.2.2.2.2.2.1 bt272.2.2.2.2.2.2.2 bt264.1 bt264.2.1 bt264.2.2.1 bt264.2.2.2.1 bt264.2.2.2.2.1 bt264.2.2.2.2.2.1 bt264.2.2.2.2.2.2.1 bt264.2.2.2.2.2.2.2).bind fun bt298 => ((zone_Of_c.f y261).bind fun bt306 => ((tithebarnlaw11_alike.f bt298.1 bt298.2.1 bt298.2.2.1 bt298.2.2.2.1 bt298.2.2.2.2.1 bt298.2.2.2.2.2.1 bt298.2.2.2.2.2.2.1 bt298.2.2.2.2.2.2.2 bt306.1 bt306.2.1 bt306.2.2.1 bt306.2.2.2.1 bt306.2.2.2.2.1 bt306.2.2.2.2.2.1 bt306.2.2.2.2.2.2.1 bt306.2.2.2.2.2.2.2).bind fun t314 => (some t314)))) else (some false))))))) else (none))) else (none)) else (some false))
def tithebarnlaw11_ZoneJoin.T5 : Bool × List (List Nat × List Nat) := (true, [([], []), ([0], [0]), ([], []), ([], []), ([2, 3, 1], [2, 3]), ([1, 4], [1, 4]), ([5, 4], [5]), ([6], [6]), ([6], [6]), ([7, 8, 6, 6], [6, 7, 8]), ([6], [6]), ([10, 9, 6], [6, 10]), ([9, 11, 11, 6], [6, 9, 11]), ([6, 12], [6, 12]), ([13, 12, 0, 1, 2, 3, 4, 5, 6, 7, 8, 9, 10, 11, 12, 13], [13])])
def tithebarnlaw11_ZoneJoin.B5 : List Nat := [0, 1, 0, 0, 15, 31, 63, 127, 127, 511, 127, 2047, 4095, 8191, 16383]
theorem tithebarnlaw11_ZoneJoin.tab5 : rtab .any (opsOf Try.f7 5) = tithebarnlaw11_ZoneJoin.T5 := by kernel_rfl
theorem tithebarnlaw11_ZoneJoin.bits5 : waitsOk tithebarnlaw11_ZoneJoin.T5.2 tithebarnlaw11_ZoneJoin.B5 = true := by kernel_rfl
set_option maxHeartbeats 8000000 in
set_option maxRecDepth 100000 in
theorem tithebarnlaw11_ZoneJoin.calls (A0 : Option Addr) (c0 : Nat) (l0 : List (S27)) (A1 : Option Addr) (c1 : Nat) (l1 : List (S27)) (r : Bool) (w : World) (hr0 : Kd.C k27 w A0 l0.length l0) (hc0 : l0.length ≤ c0) (hr1 : Kd.C k27 w A1 l1.length l1) (hc1 : l1.length ≤ c1) (h : tithebarnlaw11_ZoneJoin.f l0 l1 = some r) :
  Calls Try.prog 7 #[.slice A0 l0.length c0, .slice A1 l1.length c1] w fun e w' => e = .returned (.bool r) ∧ Below w.heap.size w w' := by
 have hu41 := Try.underlying41
 have HR0 := Aside0.mk hr0
 have HC0 := Aside0.mk hc0
 clear hr0 hc0
 have HR1 := Aside0.mk hr1
 have HC1 := Aside0.mk hc1
 clear hr1 hc1
 have HB := Aside0.mk (Below.refl w.heap.size w)
 have H : ((tithebarnlaw11_lives_c.f).bind fun t257 => (if t257 = true then (if ([] : List (S27)).length + l0.length < 4398046511104 then ((some (([] : List (S27)) ++ l0 : List (S27))).bind fun y258 => (if y258.length + l1.length < 4398046511104 then ((some (y258 ++ l1 : List (S27))).bind fun y261 => ((zone_Of_c.f l0).bind fun bt264 => ((zone_Of_c.f l1).bind fun bt272 => ((zone_Of_c.f y261).bind fun bt282 => ((zone_Join_c.f bt264.1 bt264.2.1 bt264.2.2.1 bt264.2.2.2.1 bt264.2.2.2.2.1 bt264.2.2.2.2.2.1 bt264.2.2.2.2.2.2.1 bt264.2.2.2.2.2.2.2 bt272.1 bt272.2.1 bt272.2.2.1 bt272.2.2.2.1 bt272.2.2.2.2.1 bt272.2.2.2.2.2.1 bt272.2.2.2.2.2.2.1 bt272.2.2.2.2.2.2.2).bind fun bt290 => (if (bt282.1 == bt290.1 && (bt282.2.1 == bt290.2.1 && ((bt282.2.2.1 == bt290.2.2.1 && (bt282.2.2.2.1 == bt290.2.2.2.1 && (bt282.2.2.2.2.1.toList == bt290.2.2.2.2.1.toList))) && ((bt282.2.2.2.2.2.1 == bt290.2.2.2.2.2.1 && (bt282.2.2.2.2.2.2.1 == bt290.2.2.2.2.2.2.1 && (bt282.2.2.2.2.2.2.2.toList == bt290.2.2.2.2.2.2.2.toList))))))) = true then ((zone_Join_c.f bt272.1 bt272.2.1 bt272.2.2.1 bt272.2.2.2.1 bt272.2.2.2.2.1 bt272.2.2.2.2.2.1 bt272.2.2.2.2.2.2.1 bt272.2.2.2.2.2.2.2 bt264.1 bt264.2.1 bt264.2.2.1 bt264.2.2.2.1 bt264.2.2.2.2.1 bt264.2.2.2.2.2.1 bt264.2.2.2.2.2.2.1 bt264.2.2.2.2.2.2.2).bind fun bt298 => ((zone_Of_c.f y261).bind fun bt306 => ((tithebarnlaw11_alike.f bt298.1 bt298.2.1 bt298.2.2.1 bt298.2.2.2.1 bt298.2.2.2.2.1 bt298.2.2.2.2.2.1 bt298.2.2.2.2.2.2.1 bt298.2.2.2.2.2.2.2 bt306.1 bt306.2.1 bt306.2.2.1 bt306.2.2.2.1 bt306.2.2.2.2.1 bt306.2.2.2.2.2.1 bt306.2.2.2.2.2.2.1 bt306.2.2.2.2.2.2.2).bind fun t314 => (some t314)))) else (some false))))))) else (none))) else (none)) else (some false))) = some r := h
 clear h
 replace H := Option.bind_eq_some_iff.mp H
 obtain ⟨t257, A30, H⟩ := H
 replace H : (if t257 = true then (if ([] : List (S27)).length + l0.length < 4398046511104 then ((some (([] : List (S27)) ++ l0 : List (S27))).bind fun y258 => (if y258.length + l1.length < 4398046511104 then ((some (y258 ++ l1 : List (S27))).bind fun y261 => ((zone_Of_c.f l0).bind fun bt264 => ((zone_Of_c.f l1).bind fun bt272 => ((zone_Of_c.f y261).bind fun bt282 => ((zone_Join_c.f bt264.1 bt264.2.1 bt264.2.2.1 bt264.2.2.2.1 bt264.2.2.2.2.1 bt264.2.2.2.2.2.1 bt264.2.2.2.2.2.2.1 bt264.2.2.2.2.2.2.2 bt272.1 bt272.2.1 bt272.2.2.1 bt272.2.2.2.1 bt272.2.2.2.2.1 bt272.2.2.2.2.2.1 bt272.2.2.2.2.2.2.1 bt272.2.2.2.2.2.2.2).bind fun bt290 => (if (bt282.1 == bt290.1 && (bt282.2.1 == bt290.2.1 && ((bt282.2.2.1 == bt290.2.2.1 && (bt282.2.2.2.1 == bt290.2.2.2.1 && (bt282.2.2.2.2.1.toList == bt290.2.2.2.2.1.toList))) && ((bt282.2.2.2.2.2.1 == bt290.2.2.2.2.2.1 && (bt282.2.2.2.2.2.2.1 == bt290.2.2.2.2.2.2.1 && (bt282.2.2.2.2.2.2.2.toList == bt290.2.2.2.2.2.2.2.toList))))))) = true then ((zone_Join_c.f bt272.1 bt272.2.1 bt272.2.2.1 bt272.2.2.2.1 bt272.2.2.2.2.1 bt272.2.2.2.2.2.1 bt272.2.2.2.2.2.2.1 bt272.2.2.2.2.2.2.2 bt264.1 bt264.2.1 bt264.2.2.1 bt264.2.2.2.1 bt264.2.2.2.2.1 bt264.2.2.2.2.2.1 bt264.2.2.2.2.2.2.1 bt264.2.2.2.2.2.2.2).bind fun bt298 => ((zone_Of_c.f y261).bind fun bt306 => ((tithebarnlaw11_alike.f bt298.1 bt298.2.1 bt298.2.2.1 bt298.2.2.2.1 bt298.2.2.2.2.1 bt298.2.2.2.2.2.1 bt298.2.2.2.2.2.2.1 bt298.2.2.2.2.2.2.2 bt306.1 bt306.2.1 bt306.2.2.1 bt306.2.2.2.1 bt306.2.2.2.2.1 bt306.2.2.2.2.2.1 bt306.2.2.2.2.2.2.1 bt306.2.2.2.2.2.2.2).bind fun t314 => (some t314)))) else (some false))))))) else (none))) else (none)) else (some false)) = some r := H
 have A3 := Aside0.mk A30
 clear A30
 by_cases c4 : t257 = true
 ·subst c4
  have H1 : (if ([] : List (S27)).length + l0.length < 4398046511104 then ((some (([] : List (S27)) ++ l0 : List (S27))).bind fun y258 => (if y258.length + l1.length < 4398046511104 then ((some (y258 ++ l1 : List (S27))).bind fun y261 => ((zone_Of_c.f l0).bind fun bt264 => ((zone_Of_c.f l1).bind fun bt272 => ((zone_Of_c.f y261).bind fun bt282 => ((zone_Join_c.f bt264.1 bt264.2.1 bt264.2.2.1 bt264.2.2.2.1 bt264.2.2.2.2.1 bt264.2.2.2.2.2.1 bt264.2.2.2.2.2.2.1 bt264.2.2.2.2.2.2.2 bt272.1 bt272.2.1 bt272.2.2.1 bt272.2.2.2.1 bt272.2.2.2.2.1 bt272.2.2.2.2.2.1 bt272.2.2.2.2.2.2.1 bt272.2.2.2.2.2.2.2).bind fun bt290 => (if (bt282.1 == bt290.1 && (bt282.2.1 == bt290.2.1 && ((bt282.2.2.1 == bt290.2.2.1 && (bt282.2.2.2.1 == bt290.2.2.2.1 && (bt282.2.2.2.2.1.toList == bt290.2.2.2.2.1.toList))) && ((bt282.2.2.2.2.2.1 == bt290.2.2.2.2.2.1 && (bt282.2.2.2.2.2.2.1 == bt290.2.2.2.2.2.2.1 && (bt282.2.2.2.2.2.2.2.toList == bt290.2.2.2.2.2.2.2.toList))))))) = true then ((zone_Join_c.f bt272.1 bt272.2.1 bt272.2.2.1 bt272.2.2.2.1 bt272.2.2.2.2.1 bt272.2.2.2.2.2.1 bt272.2.2.2.2.2.2.1 bt272.2.2.2.2.2.2.2 bt264.1 bt264.2.1 bt264.2.2.1 bt264.2.2.2.1 bt264.2.2.2.2.1 bt264.2.2.2.2.2.1 bt264.2.2.2.2.2.2.1 bt264.2.2.2.2.2.2.2).bind fun bt298 => ((zone_Of_c.f y261).bind fun bt306 => ((tithebarnlaw11_alike.f bt298.1 bt298.2.1 bt298.2.2.1 bt298.2.2.2.1 bt298.2.2.2.2.1 bt298.2.2.2.2.2.1 bt298.2.2.2.2.2.2.1 bt298.2.2.2.2.2.2.2 bt306.1 bt306.2.1 bt306.2.2.1 bt306.2.2.2.1 bt306.2.2.2.2.1 bt306.2.2.2.2.2.1 bt306.2.2.2.2.2.2.1 bt306.2.2.2.2.2.2.2).bind fun t314 => (some t314)))) else (some false))))))) else (none))) else (none)) = some r := by rw [if_pos rfl] at H; exact H
  clear H
  have H := H1
  clear H1
  by_cases c5 : ([] : List (S27)).length + l0.length < 4398046511104
  ·rw [if_pos c5] at H
   have LMc5 := Aside0.mk c5
   clear c5
   obtain ⟨y258, hy258⟩ : ∃ y_ : List (S27), y_ = (([] : List (S27)) ++ l0) := ⟨_, rfl⟩
   replace H : (if y258.length + l1.length < 4398046511104 then ((some (y258 ++ l1 : List (S27))).bind fun y261 => ((zone_Of_c.f l0).bind fun bt264 => ((zone_Of_c.f l1).bind fun bt272 => ((zone_Of_c.f y261).bind fun bt282 => ((zone_Join_c.f bt264.1 bt264.2.1 bt264.2.2.1 bt264.2.2.2.1 bt264.2.2.2.2.1 bt264.2.2.2.2.2.1 bt264.2.2.2.2.2.2.1 bt264.2.2.2.2.2.2.2 bt272.1 bt272.2.1 bt272.2.2.1 bt272.2.2.2.1 bt272.2.2.2.2.1 bt272.2.2.2.2.2.1 bt272.2.2.2.2.2.2.1 bt272.2.2.2.2.2.2.2).bind fun bt290 => (if (bt282.1 == bt290.1 && (bt282.2.1 == bt290.2.1 && ((bt282.2.2.1 == bt290.2.2.1 && (bt282.2.2.2.1 == bt290.2.2.2.1 && (bt282.2.2.2.2.1.toList == bt290.2.2.2.2.1.toList))) && ((bt282.2.2.2.2.2.1 == bt290.2.2.2.2.2.1 && (bt282.2.2.2.2.2.2.1 == bt290.2.2.2.2.2.2.1 && (bt282.2.2.2.2.2.2.2.toList == bt290.2.2.2.2.2.2.2.toList))))))) = true then ((zone_Join_c.f bt272.1 bt272.2.1 bt272.2.2.1 bt272.2.2.2.1 bt272.2.2.2.2.1 bt272.2.2.2.2.2.1 bt272.2.2.2.2.2.2.1 bt272.2.2.2.2.2.2.2 bt264.1 bt264.2.1 bt264.2.2.1 bt264.2.2.2.1 bt264.2.2.2.2.1 bt264.2.2.2.2.2.1 bt264.2.2.2.2.2.2.1 bt264.2.2.2.2.2.2.2).bind fun bt298 => ((zone_Of_c.f y261).bind fun bt306 => ((tithebarnlaw11_alike.f bt298.1 bt298.2.1 bt298.2.2.1 bt298.2.2.2.1 bt298.2.2.2.2.1 bt298.2.2.2.2.2.1 bt298.2.2.2.2.2.2.1 bt298.2.2.2.2.2.2.2 bt306.1 bt306.2.1 bt306.2.2.1 bt306.2.2.2.1 bt306.2.2.2.2.1 bt306.2.2.2.2.2.1 bt306.2.2.2.2.2.2.1 bt306.2.2.2.2.2.2.2).bind fun t314 => (some t314)))) else (some false))))))) else (none)) = some r := by first | (rw [hy258]; with_reducible exact H) | (have H2_ := (Option.bind_some _ _).symm.trans H; rw [hy258]; with_reducible exact H2_) | (have H2_ := (Option.bind_some _ _).symm.trans H; with_reducible exact H2_) | with_reducible exact H | (rw [hy258]; exact H) | exact H
   have Ny258 := Aside0.mk hy258
   clear hy258
   by_cases c6 : y258.length + l1.length < 4398046511104
   ·rw [if_pos c6] at H
    have LMc6 := Aside0.mk c6
    clear c6
    obtain ⟨y261, hy261⟩ : ∃ y_ : List (S27), y_ = (y258 ++ l1) := ⟨_, rfl⟩
    replace H : ((zone_Of_c.f l0).bind fun bt264 => ((zone_Of_c.f l1).bind fun bt272 => ((zone_Of_c.f y261).bind fun bt282 => ((zone_Join_c.f bt264.1 bt264.2.1 bt264.2.2.1 bt264.2.2.2.1 bt264.2.2.2.2.1 bt264.2.2.2.2.2.1 bt264.2.2.2.2.2.2.1 bt264.2.2.2.2.2.2.2 bt272.1 bt272.2.1 bt272.2.2.1 bt272.2.2.2.1 bt272.2.2.2.2.1 bt272.2.2.2.2.2.1 bt272.2.2.2.2.2.2.1 bt272.2.2.2.2.2.2.2).bind fun bt290 => (if (bt282.1 == bt290.1 && (bt282.2.1 == bt290.2.1 && ((bt282.2.2.1 == bt290.2.2.1 && (bt282.2.2.2.1 == bt290.2.2.2.1 && (bt282.2.2.2.2.1.toList == bt290.2.2.2.2.1.toList))) && ((bt282.2.2.2.2.2.1 == bt290.2.2.2.2.2.1 && (bt282.2.2.2.2.2.2.1 == bt290.2.2.2.2.2.2.1 && (bt282.2.2.2.2.2.2.2.toList == bt290.2.2.2.2.2.2.2.toList))))))) = true then ((zone_Join_c.f bt272.1 bt272.2.1 bt272.2.2.1 bt272.2.2.2.1 bt272.2.2.2.2.1 bt272.2.2.2.2.2.1 bt272.2.2.2.2.2.2.1 bt272.2.2.2.2.2.2.2 bt264.1 bt264.2.1 bt264.2.2.1 bt264.2.2.2.1 bt264.2.2.2.2.1 bt264.2.2.2.2.2.1 bt264.2.2.2.2.2.2.1 bt264.2.2.2.2.2.2.2).bind fun bt298 => ((zone_Of_c.f y261).bind fun bt306 => ((tithebarnlaw11_alike.f bt298.1 bt298.2.1 bt298.2.2.1 bt298.2.2.2.1 bt298.2.2.2.2.1 bt298.2.2.2.2.2.1 bt298.2.2.2.2.2.2.1 bt298.2.2.2.2.2.2.2 bt306.1 bt306.2.1 bt306.2.2.1 bt306.2.2.2.1 bt306.2.2.2.2.1 bt306.2.2.2.2.2.1 bt306.2.2.2.2.2.2.1 bt306.2.2.2.2.2.2.2).bind fun t314 => (some t314)))) else (some false)))))) = some r := by first | (rw [hy261]; with_reducible exact H) | (have H2_ := (Option.bind_some _ _).symm.trans H; rw [hy261]; with_reducible exact H2_) | (have H2_ := (Option.bind_some _ _).symm.trans H; with_reducible exact H2_) | with_reducible exact H | (rw [hy261]; exact H) | exact H
    have Ny261 := Aside0.mk hy261
    clear hy261
    replace H := Option.bind_eq_some_iff.mp H
    obtain ⟨⟨t264, t265, t266, t267, t268, t269, t270, t271⟩, A70, H⟩ := H
    replace H : ((zone_Of_c.f l1).bind fun bt272 => ((zone_Of_c.f y261).bind fun bt282 => ((zone_Join_c.f t264 t265 t266 t267 t268 t269 t270 t271 bt272.1 bt272.2.1 bt272.2.2.1 bt272.2.2.2.1 bt272.2.2.2.2.1 bt272.2.2.2.2.2.1 bt272.2.2.2.2.2.2.1 bt272.2.2.2.2.2.2.2).bind fun bt290 => (if (bt282.1 == bt290.1 && (bt282.2.1 == bt290.2.1 && ((bt282.2.2.1 == bt290.2.2.1 && (bt282.2.2.2.1 == bt290.2.2.2.1 && (bt282.2.2.2.2.1.toList == bt290.2.2.2.2.1.toList))) && ((bt282.2.2.2.2.2.1 == bt290.2.2.2.2.2.1 && (bt282.2.2.2.2.2.2.1 == bt290.2.2.2.2.2.2.1 && (bt282.2.2.2.2.2.2.2.toList == bt290.2.2.2.2.2.2.2.toList))))))) = true then ((zone_Join_c.f bt272.1 bt272.2.1 bt272.2.2.1 bt272.2.2.2.1 bt272.2.2.2.2.1 bt272.2.2.2.2.2.1 bt272.2.2.2.2.2.2.1 bt272.2.2.2.2.2.2.2 t264 t265 t266 t267 t268 t269 t270 t271).bind fun bt298 => ((zone_Of_c.f y261).bind fun bt306 => ((tithebarnlaw11_alike.f bt298.1 bt298.2.1 bt298.2.2.1 bt298.2.2.2.1 bt298.2.2.2.2.1 bt298.2.2.2.2.2.1 bt298.2.2.2.2.2.2.1 bt298.2.2.2.2.2.2.2 bt306.1 bt306.2.1 bt306.2.2.1 bt306.2.2.2.1 bt306.2.2.2.2.1 bt306.2.2.2.2.2.1 bt306.2.2.2.2.2.2.1 bt306.2.2.2.2.2.2.2).bind fun t314 => (some t314)))) else (some false))))) = some r := H
    have A7 := Aside0.mk A70
    clear A70
    replace H := Option.bind_eq_some_iff.mp H
    obtain ⟨⟨t272, t273, t274, t275, t276, t277, t278, t279⟩, A80, H⟩ := H
    replace H : ((zone_Of_c.f y261).bind fun bt282 => ((zone_Join_c.f t264 t265 t266 t267 t268 t269 t270 t271 t272 t273 t274 t275 t276 t277 t278 t279).bind fun bt290 => (if (bt282.1 == bt290.1 && (bt282.2.1 == bt290.2.1 && ((bt282.2.2.1 == bt290.2.2.1 && (bt282.2.2.2.1 == bt290.2.2.2.1 && (bt282.2.2.2.2.1.toList == bt290.2.2.2.2.1.toList))) && ((bt282.2.2.2.2.2.1 == bt290.2.2.2.2.2.1 && (bt282.2.2.2.2.2.2.1 == bt290.2.2.2.2.2.2.1 && (bt282.2.2.2.2.2.2.2.toList == bt290.2.2.2.2.2.2.2.toList))))))) = true then ((zone_Join_c.f t272 t273 t274 t275 t276 t277 t278 t279 t264 t265 t266 t267 t268 t269 t270 t271).bind fun bt298 => ((zone_Of_c.f y261).bind fun bt306 => ((tithebarnlaw11_alike.f bt298.1 bt298.2.1 bt298.2.2.1 bt298.2.2.2.1 bt298.2.2.2.2.1 bt298.2.2.2.2.2.1 bt298.2.2.2.2.2.2.1 bt298.2.2.2.2.2.2.2 bt306.1 bt306.2.1 bt306.2.2.1 bt306.2.2.2.1 bt306.2.2.2.2.1 bt306.2.2.2.2.2.1 bt306.2.2.2.2.2.2.1 bt306.2.2.2.2.2.2.2).bind fun t314 => (some t314)))) else (some false)))) = some r := H
    have A8 := Aside0.mk A80
    clear A80
    replace H := Option.bind_eq_some_iff.mp H
    obtain ⟨⟨t282, t283, t284, t285, t286, t287, t288, t289⟩, A90, H⟩ := H
    replace H : ((zone_Join_c.f t264 t265 t266 t267 t268 t269 t270 t271 t272 t273 t274 t275 t276 t277 t278 t279).bind fun bt290 => (if (t282 == bt290.1 && (t283 == bt290.2.1 && ((t284 == bt290.2.2.1 && (t285 == bt290.2.2.2.1 && (t286.toList == bt290.2.2.2.2.1.toList))) && ((t287 == bt290.2.2.2.2.2.1 && (t288 == bt290.2.2.2.2.2.2.1 && (t289.toList == bt290.2.2.2.2.2.2.2.toList))))))) = true then ((zone_Join_c.f t272 t273 t274 t275 t276 t277 t278 t279 t264 t265 t266 t267 t268 t269 t270 t271).bind fun bt298 => ((zone_Of_c.f y261).bind fun bt306 => ((tithebarnlaw11_alike.f bt298.1 bt298.2.1 bt298.2.2.1 bt298.2.2.2.1 bt298.2.2.2.2.1 bt298.2.2.2.2.2.1 bt298.2.2.2.2.2.2.1 bt298.2.2.2.2.2.2.2 bt306.1 bt306.2.1 bt306.2.2.1 bt306.2.2.2.1 bt306.2.2.2.2.1 bt306.2.2.2.2.2.1 bt306.2.2.2.2.2.2.1 bt306.2.2.2.2.2.2.2).bind fun t314 => (some t314)))) else (some false))) = some r := H
    have A9 := Aside0.mk A90
    clear A90
    replace H := Option.bind_eq_some_iff.mp H
    obtain ⟨⟨t290, t291, t292, t293, t294, t295, t296, t297⟩, A100, H⟩ := H
    replace H : (if (t282 == t290 && (t283 == t291 && ((t284 == t292 && (t285 == t293 && (t286.toList == t294.toList))) && ((t287 == t295 && (t288 == t296 && (t289.toList == t297.toList))))))) = true then ((zone_Join_c.f t272 t273 t274 t275 t276 t277 t278 t279 t264 t265 t266 t267 t268 t269 t270 t271).bind fun bt298 => ((zone_Of_c.f y261).bind fun bt306 => ((tithebarnlaw11_alike.f bt298.1 bt298.2.1 bt298.2.2.1 bt298.2.2.2.1 bt298.2.2.2.2.1 bt298.2.2.2.2.2.1 bt298.2.2.2.2.2.2.1 bt298.2.2.2.2.2.2.2 bt306.1 bt306.2.1 bt306.2.2.1 bt306.2.2.2.1 bt306.2.2.2.2.1 bt306.2.2.2.2.2.1 bt306.2.2.2.2.2.2.1 bt306.2.2.2.2.2.2.2).bind fun t314 => (some t314)))) else (some false)) = some r := H
    have A10 := Aside0.mk A100
    clear A100
    by_cases c11 : (t282 == t290 && (t283 == t291 && ((t284 == t292 && (t285 == t293 && (t286.toList == t294.toList))) && ((t287 == t295 && (t288 == t296 && (t289.toList == t297.toList))))))) = true
    ·rw [if_pos c11] at H
     have c11b0 : (t282 == t290 && (t283 == t291 && ((t284 == t292 && (t285 == t293 && (t286.toList == t294.toList))) && ((t287 == t295 && (t288 == t296 && (t289.toList == t297.toList))))))) = true := c11
     (try (have c11q : (t282 == t290 && (t283 == t291 && ((t284 == t292 && (t285 == t293 && (t286.toList == t294.toList))) && ((t287 == t295 && (t288 == t296 && (t289.toList == t297.toList))))))) = true := (by simpa using c11); simp only [Bool.and_eq_true, Bool.not_eq_true', beq_iff_eq] at c11q))
     (try (have c11b1 : decide (t282 = t290 && (t283 == t291 && ((t284 == t292 && (t285 == t293 && (t286.toList == t294.toList))) && ((t287 == t295 && (t288 == t296 && (t289.toList == t297.toList))))))) = true := by simpa using c11))
     (try (have c11b2 : (t282 == t290 && (t283 == t291 && ((t284 == t292 && (t285 == t293 && (t286.toList == t294.toList))) && ((t287 == t295 && (t288 == t296 && (t289.toList == t297.toList))))))) = true := by simpa using c11))
     clear c11
     replace H := Option.bind_eq_some_iff.mp H
     obtain ⟨⟨t298, t299, t300, t301, t302, t303, t304, t305⟩, A120, H⟩ := H
     replace H : ((zone_Of_c.f y261).bind fun bt306 => ((tithebarnlaw11_alike.f t298 t299 t300 t301 t302 t303 t304 t305 bt306.1 bt306.2.1 bt306.2.2.1 bt306.2.2.2.1 bt306.2.2.2.2.1 bt306.2.2.2.2.2.1 bt306.2.2.2.2.2.2.1 bt306.2.2.2.2.2.2.2).bind fun t314 => (some t314))) = some r := H
     have A12 := Aside0.mk A120
     clear A120
     replace H := Option.bind_eq_some_iff.mp H
     obtain ⟨⟨t306, t307, t308, t309, t310, t311, t312, t313⟩, A130, H⟩ := H
     replace H : ((tithebarnlaw11_alike.f t298 t299 t300 t301 t302 t303 t304 t305 t306 t307 t308 t309 t310 t311 t312 t313).bind fun t314 => (some t314)) = some r := H
     have A13 := Aside0.mk A130
     clear A130
     replace H := Option.bind_eq_some_iff.mp H
     obtain ⟨t314, A140, H⟩ := H
     replace H : (some t314) = some r := H
     have A14 := Aside0.mk A140
     clear A140
     obtain rfl := Option.some.inj H
     go_enter Try.func7, Try.ntmps7
     try go_wp2_with (first | ((with_reducible refine gate_callee (f := 19) rfl ?_); refine goesL_ (some 8) rfl rfl Try.func19 (by kernel_rfl) rfl #[] rfl (by (try simp only [List.map_toArray, List.map_cons, List.map_nil]); first | done | rfl | (simp only [List.length_drop, List.length_take]; rfl)) ?_; (with_reducible refine (tithebarnlaw11_lives_c.calls  true _ A3.out).mono ?_); rintro e w15 ⟨rfl, hb⟩; refine ⟨_, rfl, ?_⟩; have n0_ := Aside0.mk (below_step (by repeat (first | (with_reducible first | exact HB.out | apply below_alloc | apply pw_below_drewN | apply below_drew1) | exact HB.out)) hb); clear HB; have HB := n0_; clear n0_; (try clear hb); (try clear hb2); (try clear hk); (try clear hi)) | ((with_reducible refine gate_builtin (b := .append) (xs := #[.const (.slice none 0 0), .tmp 10]) rfl ?_); at_builtin; refine Kd.R_append_rows k27 (w0 := w) w.heap.size rfl (.const (.slice none 0 0)) (.tmp 10) 22 27 (.agg #[(.bool false), (.int .i64 0), (.string ⟨#[]⟩)]) 32 rfl Try.underlying22 info27 rfl (by decide) (by omega) (.slice none 0 0) ([] : List (S27)) l0 _ _ _ (fun _ => True) (fun _ => False) rfl rfl ?aO ?aR (fun _ _ h => h) (fun _ h => h.elim) ?aF ?aB ?aS ?aL ?_; (case aR => repeat (first | exact (Kd.C_below HR0.out HB.out) | (with_reducible refine Kd.C_alloc ?_ _) | (with_reducible refine Kd.C_drewN ?_ _) | (with_reducible refine Kd.C_drew ?_))); (case aB => exact (by repeat (first | (with_reducible first | exact HB.out | apply below_alloc | apply pw_below_drewN | apply below_drew1) | exact HB.out))); (case aF => exact (fun _ _ => trivial)); (case aO => exact ((Kd.R_nil _ _ _ _ (fun _ => True)))); (case aS => exact (below_size (by repeat (first | (with_reducible first | exact HB.out | apply below_alloc | apply pw_below_drewN | apply below_drew1) | exact HB.out)))); (case aL => have := LMc5.out; omega); intro v259 w16 ho hb hg hat; rw [← Ny258.out] at ho; have n0_ := Aside0.mk (hb); have n1_ := Aside0.mk (ho); clear HB; have HB := n0_; have HO260 := n1_; clear n0_ n1_; clear ho hb hg hat) | ((with_reducible refine gate_builtin (b := .append) (xs := #[.tmp 11, .tmp 12]) rfl ?_); at_builtin; refine Kd.R_append_rows k27 (w0 := w) w.heap.size rfl (.tmp 11) (.tmp 12) 22 27 (.agg #[(.bool false), (.int .i64 0), (.string ⟨#[]⟩)]) 32 rfl Try.underlying22 info27 rfl (by decide) (by omega) v259 y258 l1 _ _ _ (fun _ => True) (fun _ => False) rfl rfl ?aO ?aR (fun _ _ h => h) (fun _ h => h.elim) ?aF ?aB ?aS ?aL ?_; (case aR => repeat (first | exact (Kd.C_below HR1.out HB.out) | (with_reducible refine Kd.C_alloc ?_ _) | (with_reducible refine Kd.C_drewN ?_ _) | (with_reducible refine Kd.C_drew ?_))); (case aB => exact (by repeat (first | (with_reducible first | exact HB.out | apply below_alloc | apply pw_below_drewN | apply below_drew1) | exact HB.out))); (case aF => exact (fun _ _ => trivial)); (case aO => exact (by (with_reducible repeat (first | apply Kd.R_alloc | apply Kd.R_drewN | apply Kd.R_drew)); exact HO260.out)); (case aS => exact (below_size (by repeat (first | (with_reducible first | exact HB.out | apply below_alloc | apply pw_below_drewN | apply below_drew1) | exact HB.out)))); (case aL => have := LMc6.out; omega); intro v262 w17 ho hb hg hat; rw [← Ny261.out] at ho; have n0_ := Aside0.mk (hb); have n1_ := Aside0.mk (ho); clear HB; clear HO260; have HB := n0_; have HO263 := n1_; clear n0_ n1_; clear ho hb hg hat) | ((with_reducible refine gate_callee (f := 22) rfl ?_); refine goesL_ (some 15) rfl rfl Try.func22 (by kernel_rfl) rfl #[.slice A0 l0.length c0] rfl (by (try simp only [List.map_toArray, List.map_cons, List.map_nil]); first | done | rfl | (simp only [List.length_drop, List.length_take]; rfl)) ?_; (with_reducible refine (zone_Of_c.calls _ _ l0 t264 t265 t266 t267 t268 t269 t270 t271 _ ?side1 ?side2 A7.out).mono ?_); (case side1 => repeat (first | exact (Kd.C_below HR0.out HB.out) | (with_reducible refine Kd.C_alloc ?_ _) | (with_reducible refine Kd.C_drewN ?_ _) | (with_reducible refine Kd.C_drew ?_))); (case side2 => exact HC0.out); rintro e w18 ⟨rfl, hb⟩; refine ⟨_, rfl, ?_⟩; have n0_ := Aside0.mk (Kd.R_below (by (with_reducible repeat (first | apply Kd.R_alloc | apply Kd.R_drewN | apply Kd.R_drew)); exact HO263.out) hb); have n1_ := Aside0.mk (below_step (by repeat (first | (with_reducible first | exact HB.out | apply below_alloc | apply pw_below_drewN | apply below_drew1) | exact HB.out)) hb); clear HO263; clear HB; have HO263 := n0_; have HB := n1_; clear n0_ n1_; (try clear hb); (try clear hb2); (try clear hk); (try clear hi)) | ((with_reducible refine gate_callee (f := 22) rfl ?_); refine goesL_ (some 17) rfl rfl Try.func22 (by kernel_rfl) rfl #[.slice A1 l1.length c1] rfl (by (try simp only [List.map_toArray, List.map_cons, List.map_nil]); first | done | rfl | (simp only [List.length_drop, List.length_take]; rfl)) ?_; (with_reducible refine (zone_Of_c.calls _ _ l1 t272 t273 t274 t275 t276 t277 t278 t279 _ ?side1 ?side2 A8.out).mono ?_); (case side1 => repeat (first | exact (Kd.C_below HR1.out HB.out) | (with_reducible refine Kd.C_alloc ?_ _) | (with_reducible refine Kd.C_drewN ?_ _) | (with_reducible refine Kd.C_drew ?_))); (case side2 => exact HC1.out); rintro e w19 ⟨rfl, hb⟩; refine ⟨_, rfl, ?_⟩; have n0_ := Aside0.mk (Kd.R_below (by (with_reducible repeat (first | apply Kd.R_alloc | apply Kd.R_drewN | apply Kd.R_drew)); exact HO263.out) hb); have n1_ := Aside0.mk (below_step (by repeat (first | (with_reducible first | exact HB.out | apply below_alloc | apply pw_below_drewN | apply below_drew1) | exact HB.out)) hb); clear HO263; clear HB; have HO263 := n0_; have HB := n1_; clear n0_ n1_; (try clear hb); (try clear hb2); (try clear hk); (try clear hi)) | ((with_reducible refine gate_dst (N := 6) rfl ?_); refine box_event ?hg (N := 6) ?hd (cs := #[.bool false, .bool false, .bool false, .int .i64 0, .string (⟨#[]⟩ : ByteArray), .bool false, .int .i64 0, .string (⟨#[]⟩ : ByteArray)]) (t := 41) ?hr ?_; (case hd => rfl); (case hg => rfl); (case hr => first | (go_simp; done) | (go_simp; rfl)); intro gb280 hg w20 hbox hb; have n0_ := Aside0.mk (Kd.R_below (by (with_reducible repeat (first | apply Kd.R_alloc | apply Kd.R_drewN | apply Kd.R_drew)); exact HO263.out) hb); have n1_ := Aside0.mk (below_step (by repeat (first | (with_reducible first | exact HB.out | apply below_alloc | apply pw_below_drewN | apply below_drew1) | exact HB.out)) hb); have n2_ := Aside0.mk (hbox); have n3_ := Aside0.mk ((by rw [hg]; exact (below_size (by repeat (first | (with_reducible first | exact HB.out | apply below_alloc | apply pw_below_drewN | apply below_drew1) | exact HB.out))) : w.heap.size ≤ gb280)); have n4_ := Aside0.mk ((by rw [hg]; exact (below_size (by repeat (first | (with_reducible first | exact HB.out | apply below_alloc | apply pw_below_drewN | apply below_drew1) | exact HB.out))) : w.heap.size ≤ gb280)); clear HO263; clear HB; have HO263 := n0_; have HB := n1_; have BK280 := n2_; have GW280 := n3_; have GE280 := n4_; clear n0_ n1_ n2_ n3_ n4_; clear hb hbox hg) | ((with_reducible refine gate_dst (N := 7) rfl ?_); refine box_event ?hg (N := 7) ?hd (cs := #[.bool false, .bool false, .bool false, .int .i64 0, .string (⟨#[]⟩ : ByteArray), .bool false, .int .i64 0, .string (⟨#[]⟩ : ByteArray)]) (t := 41) ?hr ?_; (case hd => rfl); (case hg => rfl); (case hr => first | (go_simp; done) | (go_simp; rfl)); intro gb281 hg w21 hbox hb; have n0_ := Aside0.mk (Kd.R_below (by (with_reducible repeat (first | apply Kd.R_alloc | apply Kd.R_drewN | apply Kd.R_drew)); exact HO263.out) hb); have n1_ := Aside0.mk (blk_below (g := gb280) (o := .cells #[.bool false, .bool false, .bool false, .int .i64 0, .string (⟨#[]⟩ : ByteArray), .bool false, .int .i64 0, .string (⟨#[]⟩ : ByteArray)] 41 (0, 0)) (by (with_reducible repeat (first | refine blk_drewN ?_ _ | refine blk_drew ?_ | refine blk_alloc ?_ _)); exact BK280.out) hb); have n2_ := Aside0.mk (below_step (by repeat (first | (with_reducible first | exact HB.out | apply below_alloc | apply pw_below_drewN | apply below_drew1 | refine below_set ?_ GE280.out) | exact HB.out)) hb); have n3_ := Aside0.mk (hbox); have n4_ := Aside0.mk ((by rw [hg]; exact (below_size (by repeat (first | (with_reducible first | exact HB.out | apply below_alloc | apply pw_below_drewN | apply below_drew1 | refine below_set ?_ GE280.out) | exact HB.out))) : w.heap.size ≤ gb281)); have n5_ := Aside0.mk ((by rw [hg]; exact (below_size (by repeat (first | (with_reducible first | exact HB.out | apply below_alloc | apply pw_below_drewN | apply below_drew1 | refine below_set ?_ GE280.out) | exact HB.out))) : w.heap.size ≤ gb281)); have n6_ := Aside0.mk ((by rw [hg]; exact Nat.ne_of_lt (blk_lt (g := gb280) (o := .cells #[.bool false, .bool false, .bool false, .int .i64 0, .string (⟨#[]⟩ : ByteArray), .bool false, .int .i64 0, .string (⟨#[]⟩ : ByteArray)] 41 (0, 0)) (by (with_reducible repeat (first | refine blk_drewN ?_ _ | refine blk_drew ?_ | refine blk_alloc ?_ _)); exact BK280.out)) : gb280 ≠ gb281)); have n7_ := Aside0.mk ((by rw [hg]; exact Nat.ne_of_gt (blk_lt (g := gb280) (o := .cells #[.bool false, .bool false, .bool false, .int .i64 0, .string (⟨#[]⟩ : ByteArray), .bool false, .int .i64 0, .string (⟨#[]⟩ : ByteArray)] 41 (0, 0)) (by (with_reducible repeat (first | refine blk_drewN ?_ _ | refine blk_drew ?_ | refine blk_alloc ?_ _)); exact BK280.out)) : gb281 ≠ gb280)); clear HO263; clear BK280; clear HB; have HO263 := n0_; have BK280 := n1_; have HB := n2_; have BK281 := n3_; have GW281 := n4_; have GE281 := n5_; have NB280_281 := n6_; have NB281_280 := n7_; clear n0_ n1_ n2_ n3_ n4_ n5_ n6_ n7_; clear hb hbox hg; have hnb22 := NB280_281.out; have hnc22 := NB281_280.out; have hcz23_0 : w21.cell? ⟨gb280, 0, none⟩ = some (.bool false) := (blk_cell BK280.out 0).trans rfl; have hcz23_1 : w21.cell? ⟨gb280, 1, none⟩ = some (.bool false) := (blk_cell BK280.out 1).trans rfl; have hcz23_2 : w21.cell? ⟨gb280, 2, none⟩ = some (.bool false) := (blk_cell BK280.out 2).trans rfl; have hcz23_3 : w21.cell? ⟨gb280, 3, none⟩ = some (.int .i64 0) := (blk_cell BK280.out 3).trans rfl; have hcz23_4 : w21.cell? ⟨gb280, 4, none⟩ = some (.string (⟨#[]⟩ : ByteArray)) := (blk_cell BK280.out 4).trans rfl; have hcz23_5 : w21.cell? ⟨gb280, 5, none⟩ = some (.bool false) := (blk_cell BK280.out 5).trans rfl; have hcz23_6 : w21.cell? ⟨gb280, 6, none⟩ = some (.int .i64 0) := (blk_cell BK280.out 6).trans rfl; have hcz23_7 : w21.cell? ⟨gb280, 7, none⟩ = some (.string (⟨#[]⟩ : ByteArray)) := (blk_cell BK280.out 7).trans rfl; have hfz23_0 := blk_frozen BK280.out 0; have hfz23_1 := blk_frozen BK280.out 1; have hfz23_2 := blk_frozen BK280.out 2; have hfz23_3 := blk_frozen BK280.out 3; have hfz23_4 := blk_frozen BK280.out 4; have hfz23_5 := blk_frozen BK280.out 5; have hfz23_6 := blk_frozen BK280.out 6; have hfz23_7 := blk_frozen BK280.out 7; have hcz24_0 : w21.cell? ⟨gb281, 0, none⟩ = some (.bool false) := (blk_cell BK281.out 0).trans rfl; have hcz24_1 : w21.cell? ⟨gb281, 1, none⟩ = some (.bool false) := (blk_cell BK281.out 1).trans rfl; have hcz24_2 : w21.cell? ⟨gb281, 2, none⟩ = some (.bool false) := (blk_cell BK281.out 2).trans rfl; have hcz24_3 : w21.cell? ⟨gb281, 3, none⟩ = some (.int .i64 0) := (blk_cell BK281.out 3).trans rfl; have hcz24_4 : w21.cell? ⟨gb281, 4, none⟩ = some (.string (⟨#[]⟩ : ByteArray)) := (blk_cell BK281.out 4).trans rfl; have hcz24_5 : w21.cell? ⟨gb281, 5, none⟩ = some (.bool false) := (blk_cell BK281.out 5).trans rfl; have hcz24_6 : w21.cell? ⟨gb281, 6, none⟩ = some (.int .i64 0) := (blk_cell BK281.out 6).trans rfl; have hcz24_7 : w21.cell? ⟨gb281, 7, none⟩ = some (.string (⟨#[]⟩ : ByteArray)) := (blk_cell BK281.out 7).trans rfl; have hfz24_0 := blk_frozen BK281.out 0; have hfz24_1 := blk_frozen BK281.out 1; have hfz24_2 := blk_frozen BK281.out 2; have hfz24_3 := blk_frozen BK281.out 3; have hfz24_4 := blk_frozen BK281.out 4; have hfz24_5 := blk_frozen BK281.out 5; have hfz24_6 := blk_frozen BK281.out 6; have hfz24_7 := blk_frozen BK281.out 7))
     have n0_ : Aside0 (Kd.R k27 27 ((((((((((((((((w21.setCell ⟨gb280, 0, none⟩ (.bool t264)).setCell ⟨gb280, 1, none⟩ (.bool t265)).setCell ⟨gb280, 2, none⟩ (.bool t266)).setCell ⟨gb280, 3, none⟩ (.int .i64 t267)).setCell ⟨gb280, 4, none⟩ (.string t268)).setCell ⟨gb280, 5, none⟩ (.bool t269)).setCell ⟨gb280, 6, none⟩ (.int .i64 t270)).setCell ⟨gb280, 7, none⟩ (.string t271)).setCell ⟨gb281, 0, none⟩ (.bool t272)).setCell ⟨gb281, 1, none⟩ (.bool t273)).setCell ⟨gb281, 2, none⟩ (.bool t274)).setCell ⟨gb281, 3, none⟩ (.int .i64 t275)).setCell ⟨gb281, 4, none⟩ (.string t276)).setCell ⟨gb281, 5, none⟩ (.bool t277)).setCell ⟨gb281, 6, none⟩ (.int .i64 t278)).setCell ⟨gb281, 7, none⟩ (.string t279)) w.heap.size (fun _ => True) v262 y261) := ⟨by (with_reducible repeat (first | apply Kd.R_alloc | apply Kd.R_drewN | apply Kd.R_drew)); exact Kd.R_mono (Kd.R_far (p := ⟨gb281, 7, none⟩) (Kd.R_far (p := ⟨gb281, 6, none⟩) (Kd.R_far (p := ⟨gb281, 5, none⟩) (Kd.R_far (p := ⟨gb281, 4, none⟩) (Kd.R_far (p := ⟨gb281, 3, none⟩) (Kd.R_far (p := ⟨gb281, 2, none⟩) (Kd.R_far (p := ⟨gb281, 1, none⟩) (Kd.R_far (p := ⟨gb281, 0, none⟩) (Kd.R_far (p := ⟨gb280, 7, none⟩) (Kd.R_far (p := ⟨gb280, 6, none⟩) (Kd.R_far (p := ⟨gb280, 5, none⟩) (Kd.R_far (p := ⟨gb280, 4, none⟩) (Kd.R_far (p := ⟨gb280, 3, none⟩) (Kd.R_far (p := ⟨gb280, 2, none⟩) (Kd.R_far (p := ⟨gb280, 1, none⟩) (Kd.R_far (p := ⟨gb280, 0, none⟩) (Kd.R_types (Kd.R_types HO263.out BK280.out (by decide)) BK281.out (by decide)) (fun _ hk => hk.1.2) (.bool t264)) (fun _ hk => hk.1.2) (.bool t265)) (fun _ hk => hk.1.2) (.bool t266)) (fun _ hk => hk.1.2) (.int .i64 t267)) (fun _ hk => hk.1.2) (.string t268)) (fun _ hk => hk.1.2) (.bool t269)) (fun _ hk => hk.1.2) (.int .i64 t270)) (fun _ hk => hk.1.2) (.string t271)) (fun _ hk => hk.2) (.bool t272)) (fun _ hk => hk.2) (.bool t273)) (fun _ hk => hk.2) (.bool t274)) (fun _ hk => hk.2) (.int .i64 t275)) (fun _ hk => hk.2) (.string t276)) (fun _ hk => hk.2) (.bool t277)) (fun _ hk => hk.2) (.int .i64 t278)) (fun _ hk => hk.2) (.string t279)) (fun _ hk => trivial)⟩
     have n1_ : Aside0 (((((((((((((((((w21.setCell ⟨gb280, 0, none⟩ (.bool t264)).setCell ⟨gb280, 1, none⟩ (.bool t265)).setCell ⟨gb280, 2, none⟩ (.bool t266)).setCell ⟨gb280, 3, none⟩ (.int .i64 t267)).setCell ⟨gb280, 4, none⟩ (.string t268)).setCell ⟨gb280, 5, none⟩ (.bool t269)).setCell ⟨gb280, 6, none⟩ (.int .i64 t270)).setCell ⟨gb280, 7, none⟩ (.string t271)).setCell ⟨gb281, 0, none⟩ (.bool t272)).setCell ⟨gb281, 1, none⟩ (.bool t273)).setCell ⟨gb281, 2, none⟩ (.bool t274)).setCell ⟨gb281, 3, none⟩ (.int .i64 t275)).setCell ⟨gb281, 4, none⟩ (.string t276)).setCell ⟨gb281, 5, none⟩ (.bool t277)).setCell ⟨gb281, 6, none⟩ (.int .i64 t278)).setCell ⟨gb281, 7, none⟩ (.string t279)).heap[gb280]? = some (.cells #[.bool t264, .bool t265, .bool t266, .int .i64 t267, .string t268, .bool t269, .int .i64 t270, .string t271] 41 (0, 0))) := ⟨by (with_reducible repeat (first | refine blk_drewN ?_ _ | refine blk_drew ?_ | refine blk_alloc ?_ _)); refine blk_far ?_ NB280_281.out _; (with_reducible repeat (first | refine blk_drewN ?_ _ | refine blk_drew ?_ | refine blk_alloc ?_ _)); refine blk_far ?_ NB280_281.out _; (with_reducible repeat (first | refine blk_drewN ?_ _ | refine blk_drew ?_ | refine blk_alloc ?_ _)); refine blk_far ?_ NB280_281.out _; (with_reducible repeat (first | refine blk_drewN ?_ _ | refine blk_drew ?_ | refine blk_alloc ?_ _)); refine blk_far ?_ NB280_281.out _; (with_reducible repeat (first | refine blk_drewN ?_ _ | refine blk_drew ?_ | refine blk_alloc ?_ _)); refine blk_far ?_ NB280_281.out _; (with_reducible repeat (first | refine blk_drewN ?_ _ | refine blk_drew ?_ | refine blk_alloc ?_ _)); refine blk_far ?_ NB280_281.out _; (with_reducible repeat (first | refine blk_drewN ?_ _ | refine blk_drew ?_ | refine blk_alloc ?_ _)); refine blk_far ?_ NB280_281.out _; (with_reducible repeat (first | refine blk_drewN ?_ _ | refine blk_drew ?_ | refine blk_alloc ?_ _)); refine blk_far ?_ NB280_281.out _; (with_reducible repeat (first | refine blk_drewN ?_ _ | refine blk_drew ?_ | refine blk_alloc ?_ _)); refine blk_put (cs := #[.bool t264, .bool t265, .bool t266, .int .i64 t267, .string t268, .bool t269, .int .i64 t270, .string (⟨#[]⟩ : ByteArray)]) ?_ 7 _ rfl; (with_reducible repeat (first | refine blk_drewN ?_ _ | refine blk_drew ?_ | refine blk_alloc ?_ _)); refine blk_put (cs := #[.bool t264, .bool t265, .bool t266, .int .i64 t267, .string t268, .bool t269, .int .i64 0, .string (⟨#[]⟩ : ByteArray)]) ?_ 6 _ rfl; (with_reducible repeat (first | refine blk_drewN ?_ _ | refine blk_drew ?_ | refine blk_alloc ?_ _)); refine blk_put (cs := #[.bool t264, .bool t265, .bool t266, .int .i64 t267, .string t268, .bool false, .int .i64 0, .string (⟨#[]⟩ : ByteArray)]) ?_ 5 _ rfl; (with_reducible repeat (first | refine blk_drewN ?_ _ | refine blk_drew ?_ | refine blk_alloc ?_ _)); refine blk_put (cs := #[.bool t264, .bool t265, .bool t266, .int .i64 t267, .string (⟨#[]⟩ : ByteArray), .bool false, .int .i64 0, .string (⟨#[]⟩ : ByteArray)]) ?_ 4 _ rfl; (with_reducible repeat (first | refine blk_drewN ?_ _ | refine blk_drew ?_ | refine blk_alloc ?_ _)); refine blk_put (cs := #[.bool t264, .bool t265, .bool t266, .int .i64 0, .string (⟨#[]⟩ : ByteArray), .bool false, .int .i64 0, .string (⟨#[]⟩ : ByteArray)]) ?_ 3 _ rfl; (with_reducible repeat (first | refine blk_drewN ?_ _ | refine blk_drew ?_ | refine blk_alloc ?_ _)); refine blk_put (cs := #[.bool t264, .bool t265, .bool false, .int .i64 0, .string (⟨#[]⟩ : ByteArray), .bool false, .int .i64 0, .string (⟨#[]⟩ : ByteArray)]) ?_ 2 _ rfl; (with_reducible repeat (first | refine blk_drewN ?_ _ | refine blk_drew ?_ | refine blk_alloc ?_ _)); refine blk_put (cs := #[.bool t264, .bool false, .bool false, .int .i64 0, .string (⟨#[]⟩ : ByteArray), .bool false, .int .i64 0, .string (⟨#[]⟩ : ByteArray)]) ?_ 1 _ rfl; (with_reducible repeat (first | refine blk_drewN ?_ _ | refine blk_drew ?_ | refine blk_alloc ?_ _)); refine blk_put (cs := #[.bool false, .bool false, .bool false, .int .i64 0, .string (⟨#[]⟩ : ByteArray), .bool false, .int .i64 0, .string (⟨#[]⟩ : ByteArray)]) ?_ 0 _ rfl; (with_reducible repeat (first | refine blk_drewN ?_ _ | refine blk_drew ?_ | refine blk_alloc ?_ _)); exact BK280.out⟩
     have n2_ : Aside0 (((((((((((((((((w21.setCell ⟨gb280, 0, none⟩ (.bool t264)).setCell ⟨gb280, 1, none⟩ (.bool t265)).setCell ⟨gb280, 2, none⟩ (.bool t266)).setCell ⟨gb280, 3, none⟩ (.int .i64 t267)).setCell ⟨gb280, 4, none⟩ (.string t268)).setCell ⟨gb280, 5, none⟩ (.bool t269)).setCell ⟨gb280, 6, none⟩ (.int .i64 t270)).setCell ⟨gb280, 7, none⟩ (.string t271)).setCell ⟨gb281, 0, none⟩ (.bool t272)).setCell ⟨gb281, 1, none⟩ (.bool t273)).setCell ⟨gb281, 2, none⟩ (.bool t274)).setCell ⟨gb281, 3, none⟩ (.int .i64 t275)).setCell ⟨gb281, 4, none⟩ (.string t276)).setCell ⟨gb281, 5, none⟩ (.bool t277)).setCell ⟨gb281, 6, none⟩ (.int .i64 t278)).setCell ⟨gb281, 7, none⟩ (.string t279)).heap[gb281]? = some (.cells #[.bool t272, .bool t273, .bool t274, .int .i64 t275, .string t276, .bool t277, .int .i64 t278, .string t279] 41 (0, 0))) := ⟨by (with_reducible repeat (first | refine blk_drewN ?_ _ | refine blk_drew ?_ | refine blk_alloc ?_ _)); refine blk_put (cs := #[.bool t272, .bool t273, .bool t274, .int .i64 t275, .string t276, .bool t277, .int .i64 t278, .string (⟨#[]⟩ : ByteArray)]) ?_ 7 _ rfl; (with_reducible repeat (first | refine blk_drewN ?_ _ | refine blk_drew ?_ | refine blk_alloc ?_ _)); refine blk_put (cs := #[.bool t272, .bool t273, .bool t274, .int .i64 t275, .string t276, .bool t277, .int .i64 0, .string (⟨#[]⟩ : ByteArray)]) ?_ 6 _ rfl; (with_reducible repeat (first | refine blk_drewN ?_ _ | refine blk_drew ?_ | refine blk_alloc ?_ _)); refine blk_put (cs := #[.bool t272, .bool t273, .bool t274, .int .i64 t275, .string t276, .bool false, .int .i64 0, .string (⟨#[]⟩ : ByteArray)]) ?_ 5 _ rfl; (with_reducible repeat (first | refine blk_drewN ?_ _ | refine blk_drew ?_ | refine blk_alloc ?_ _)); refine blk_put (cs := #[.bool t272, .bool t273, .bool t274, .int .i64 t275, .string (⟨#[]⟩ : ByteArray), .bool false, .int .i64 0, .string (⟨#[]⟩ : ByteArray)]) ?_ 4 _ rfl; (with_reducible repeat (first | refine blk_drewN ?_ _ | refine blk_drew ?_ | refine blk_alloc ?_ _)); refine blk_put (cs := #[.bool t272, .bool t273, .bool t274, .int .i64 0, .string (⟨#[]⟩ : ByteArray), .bool false, .int .i64 0, .string (⟨#[]⟩ : ByteArray)]) ?_ 3 _ rfl; (with_reducible repeat (first | refine blk_drewN ?_ _ | refine blk_drew ?_ | refine blk_alloc ?_ _)); refine blk_put (cs := #[.bool t272, .bool t273, .bool false, .int .i64 0, .string (⟨#[]⟩ : ByteArray), .bool false, .int .i64 0, .string (⟨#[]⟩ : ByteArray)]) ?_ 2 _ rfl; (with_reducible repeat (first | refine blk_drewN ?_ _ | refine blk_drew ?_ | refine blk_alloc ?_ _)); refine blk_put (cs := #[.bool t272, .bool false, .bool false, .int .i64 0, .string (⟨#[]⟩ : ByteArray), .bool false, .int .i64 0, .string (⟨#[]⟩ : ByteArray)]) ?_ 1 _ rfl; (with_reducible repeat (first | refine blk_drewN ?_ _ | refine blk_drew ?_ | refine blk_alloc ?_ _)); refine blk_put (cs := #[.bool false, .bool false, .bool false, .int .i64 0, .string (⟨#[]⟩ : ByteArray), .bool false, .int .i64 0, .string (⟨#[]⟩ : ByteArray)]) ?_ 0 _ rfl; (with_reducible repeat (first | refine blk_drewN ?_ _ | refine blk_drew ?_ | refine blk_alloc ?_ _)); refine blk_far ?_ NB281_280.out _; (with_reducible repeat (first | refine blk_drewN ?_ _ | refine blk_drew ?_ | refine blk_alloc ?_ _)); refine blk_far ?_ NB281_280.out _; (with_reducible repeat (first | refine blk_drewN ?_ _ | refine blk_drew ?_ | refine blk_alloc ?_ _)); refine blk_far ?_ NB281_280.out _; (with_reducible repeat (first | refine blk_drewN ?_ _ | refine blk_drew ?_ | refine blk_alloc ?_ _)); refine blk_far ?_ NB281_280.out _; (with_reducible repeat (first | refine blk_drewN ?_ _ | refine blk_drew ?_ | refine blk_alloc ?_ _)); refine blk_far ?_ NB281_280.out _; (with_reducible repeat (first | refine blk_drewN ?_ _ | refine blk_drew ?_ | refine blk_alloc ?_ _)); refine blk_far ?_ NB281_280.out _; (with_reducible repeat (first | refine blk_drewN ?_ _ | refine blk_drew ?_ | refine blk_alloc ?_ _)); refine blk_far ?_ NB281_280.out _; (with_reducible repeat (first | refine blk_drewN ?_ _ | refine blk_drew ?_ | refine blk_alloc ?_ _)); refine blk_far ?_ NB281_280.out _; (with_reducible repeat (first | refine blk_drewN ?_ _ | refine blk_drew ?_ | refine blk_alloc ?_ _)); exact BK281.out⟩
     have n3_ : Aside0 (Below w.heap.size w ((((((((((((((((w21.setCell ⟨gb280, 0, none⟩ (.bool t264)).setCell ⟨gb280, 1, none⟩ (.bool t265)).setCell ⟨gb280, 2, none⟩ (.bool t266)).setCell ⟨gb280, 3, none⟩ (.int .i64 t267)).setCell ⟨gb280, 4, none⟩ (.string t268)).setCell ⟨gb280, 5, none⟩ (.bool t269)).setCell ⟨gb280, 6, none⟩ (.int .i64 t270)).setCell ⟨gb280, 7, none⟩ (.string t271)).setCell ⟨gb281, 0, none⟩ (.bool t272)).setCell ⟨gb281, 1, none⟩ (.bool t273)).setCell ⟨gb281, 2, none⟩ (.bool t274)).setCell ⟨gb281, 3, none⟩ (.int .i64 t275)).setCell ⟨gb281, 4, none⟩ (.string t276)).setCell ⟨gb281, 5, none⟩ (.bool t277)).setCell ⟨gb281, 6, none⟩ (.int .i64 t278)).setCell ⟨gb281, 7, none⟩ (.string t279))) := ⟨by repeat (first | (with_reducible first | exact HB.out | apply below_alloc | apply pw_below_drewN | apply below_drew1 | refine below_set ?_ GE280.out | refine below_set ?_ GE281.out) | exact HB.out)⟩
     (try clear HO263)
     (try clear BK280)
     (try clear BK281)
     (try clear HB)
     generalize ((((((((((((((((w21.setCell ⟨gb280, 0, none⟩ (.bool t264)).setCell ⟨gb280, 1, none⟩ (.bool t265)).setCell ⟨gb280, 2, none⟩ (.bool t266)).setCell ⟨gb280, 3, none⟩ (.int .i64 t267)).setCell ⟨gb280, 4, none⟩ (.string t268)).setCell ⟨gb280, 5, none⟩ (.bool t269)).setCell ⟨gb280, 6, none⟩ (.int .i64 t270)).setCell ⟨gb280, 7, none⟩ (.string t271)).setCell ⟨gb281, 0, none⟩ (.bool t272)).setCell ⟨gb281, 1, none⟩ (.bool t273)).setCell ⟨gb281, 2, none⟩ (.bool t274)).setCell ⟨gb281, 3, none⟩ (.int .i64 t275)).setCell ⟨gb281, 4, none⟩ (.string t276)).setCell ⟨gb281, 5, none⟩ (.bool t277)).setCell ⟨gb281, 6, none⟩ (.int .i64 t278)).setCell ⟨gb281, 7, none⟩ (.string t279)) = w25 at n0_ n1_ n2_ n3_ ⊢
     have HO263 := n0_
     have BK280 := n1_
     have BK281 := n2_
     have HB := n3_
     clear n0_ n1_ n2_ n3_
     have n0_ := Aside0.mk (Kd.R_drew HO263.out)
     have n1_ := Aside0.mk (blk_drew BK280.out)
     have n2_ := Aside0.mk (blk_drew BK281.out)
     have n3_ := Aside0.mk (below_drew1 HB.out)
     clear HO263
     clear BK280
     clear BK281
     clear HB
     have HO263 := n0_
     have BK280 := n1_
     have BK281 := n2_
     have HB := n3_
     clear n0_ n1_ n2_ n3_
     obtain ⟨Ao27, co27, eo27⟩ := Kd.R_slice HO263.out
     (first | subst eo27 | (injection eo27 with f1_ f2_ f3_; have f4_ := f1_.symm; have f5_ := f3_.symm; clear f1_ f2_ f3_; subst f4_; subst f5_))
     refine start_ (n := 15) (S := fun w' => w'.cell? ⟨gb280, 0, none⟩ = some (.bool t264) ∧ w'.cell? ⟨gb280, 1, none⟩ = some (.bool t265) ∧ w'.cell? ⟨gb280, 2, none⟩ = some (.bool t266) ∧ w'.cell? ⟨gb280, 3, none⟩ = some (.int .i64 t267) ∧ w'.cell? ⟨gb280, 4, none⟩ = some (.string t268) ∧ w'.cell? ⟨gb280, 5, none⟩ = some (.bool t269) ∧ w'.cell? ⟨gb280, 6, none⟩ = some (.int .i64 t270) ∧ w'.cell? ⟨gb280, 7, none⟩ = some (.string t271) ∧ w'.cell? ⟨gb281, 0, none⟩ = some (.bool t272) ∧ w'.cell? ⟨gb281, 1, none⟩ = some (.bool t273) ∧ w'.cell? ⟨gb281, 2, none⟩ = some (.bool t274) ∧ w'.cell? ⟨gb281, 3, none⟩ = some (.int .i64 t275) ∧ w'.cell? ⟨gb281, 4, none⟩ = some (.string t276) ∧ w'.cell? ⟨gb281, 5, none⟩ = some (.bool t277) ∧ w'.cell? ⟨gb281, 6, none⟩ = some (.int .i64 t278) ∧ w'.cell? ⟨gb281, 7, none⟩ = some (.string t279)) (ds := []) #[false, false, false, false, false, false, false, false, false, false, false, false, false, false, false] (by kernel_rfl) rfl rfl ⟨(blk_cell BK280.out 0).trans rfl, (blk_cell BK280.out 1).trans rfl, (blk_cell BK280.out 2).trans rfl, (blk_cell BK280.out 3).trans rfl, (blk_cell BK280.out 4).trans rfl, (blk_cell BK280.out 5).trans rfl, (blk_cell BK280.out 6).trans rfl, (blk_cell BK280.out 7).trans rfl, (blk_cell BK281.out 0).trans rfl, (blk_cell BK281.out 1).trans rfl, (blk_cell BK281.out 2).trans rfl, (blk_cell BK281.out 3).trans rfl, (blk_cell BK281.out 4).trans rfl, (blk_cell BK281.out 5).trans rfl, (blk_cell BK281.out 6).trans rfl, (blk_cell BK281.out 7).trans rfl⟩ (fun hHeld => ?_); refine with_tabW tithebarnlaw11_ZoneJoin.tab5 tithebarnlaw11_ZoneJoin.bits5 (fun HT_ HW_ => ?_)
     generalize w25.drew = w26 at HO263 BK280 BK281 HB hHeld ⊢
     refine pure_ (i := 0) (N := some 18) (v := ?_) (a' := ?_) #[true, false, false, false, false, false, false, false, false, false, false, false, false, false, false] rfl rfl (any_of HT_.out (by kernel_rfl)) (fun _ _ _ h => h) (Or.inl ⟨by rfl, ?_⟩) ?_ ?_
     rotate_left
     ·intro w'
      go_simp
      with_reducible rfl
     rotate_left
     ·simp only [Act.put, List.setIfInBounds_toArray, List.set_cons_zero, List.set_cons_succ, i64_w, i32_w]
      rfl
     refine take_ (i := 2) (N := some 20) (v := ?_) (a' := ?_) #[true, false, true, false, false, false, false, false, false, false, false, false, false, false, false] rfl rfl (take_ofW HT_.out HW_.out (by kernel_rfl)) (fun _ _ _ h => h) (Or.inl ⟨by rfl, ?_⟩) hHeld ?_ ?_
     rotate_left
     ·rintro w' ⟨s0, s1, s2, s3, s4, s5, s6, s7, s8, s9, s10, s11, s12, s13, s14, s15⟩
      go_simp
      with_reducible rfl
     rotate_left
     ·simp only [Act.put, List.setIfInBounds_toArray, List.set_cons_zero, List.set_cons_succ, i64_w, i32_w]
      rfl
     refine take_ (i := 3) (N := some 21) (v := ?_) (a' := ?_) #[true, false, true, true, false, false, false, false, false, false, false, false, false, false, false] rfl rfl (take_ofW HT_.out HW_.out (by kernel_rfl)) (fun _ _ _ h => h) (Or.inl ⟨by rfl, ?_⟩) hHeld ?_ ?_
     rotate_left
     ·rintro w' ⟨s0, s1, s2, s3, s4, s5, s6, s7, s8, s9, s10, s11, s12, s13, s14, s15⟩
      go_simp
      with_reducible rfl
     rotate_left
     ·simp only [Act.put, List.setIfInBounds_toArray, List.set_cons_zero, List.set_cons_succ, i64_w, i32_w]
      rfl
     refine one_ (i := 1) (N := some 19) #[true, true, true, true, false, false, false, false, false, false, false, false, false, false, false] rfl rfl (one_of HT_.out (by kernel_rfl)) (by decide) (fun K hK => ?_)
     refine goes_ Try.func22 (by kernel_rfl) rfl #[.slice Ao27 y261.length co27] (by rfl) rfl rfl (by (try simp only [List.map_toArray, List.map_cons, List.map_nil]); first | done | rfl | (simp only [List.length_drop, List.length_take]; rfl)) ?_
     with_reducible refine (zone_Of_c.calls _ _ y261 t282 t283 t284 t285 t286 t287 t288 t289 _ ?side1 ?side2 A9.out).mono ?_
     (case side1 => repeat (first | exact (Kd.R_reads' HO263.out).2.2 | (with_reducible refine Kd.C_alloc ?_ _) | (with_reducible refine Kd.C_drewN ?_ _) | (with_reducible refine Kd.C_drew ?_)))
     (case side2 => exact (Kd.R_reads' HO263.out).2.1)
     rintro e w28 ⟨rfl, hb⟩
     refine ⟨_, rfl, ?_⟩
     have n0_ := Aside0.mk (Kd.R_below (by (with_reducible repeat (first | apply Kd.R_alloc | apply Kd.R_drewN | apply Kd.R_drew)); exact HO263.out) hb)
     have n1_ := Aside0.mk (blk_below (g := gb280) (o := .cells #[.bool t264, .bool t265, .bool t266, .int .i64 t267, .string t268, .bool t269, .int .i64 t270, .string t271] 41 (0, 0)) (by (with_reducible repeat (first | refine blk_drewN ?_ _ | refine blk_drew ?_ | refine blk_alloc ?_ _)); exact BK280.out) hb)
     have n2_ := Aside0.mk (blk_below (g := gb281) (o := .cells #[.bool t272, .bool t273, .bool t274, .int .i64 t275, .string t276, .bool t277, .int .i64 t278, .string t279] 41 (0, 0)) (by (with_reducible repeat (first | refine blk_drewN ?_ _ | refine blk_drew ?_ | refine blk_alloc ?_ _)); exact BK281.out) hb)
     have n3_ := Aside0.mk (below_step (by repeat (first | (with_reducible first | exact HB.out | apply below_alloc | apply pw_below_drewN | apply below_drew1 | refine below_set ?_ GE280.out | refine below_set ?_ GE281.out) | exact HB.out)) hb)
     clear HO263
     clear BK280
     clear BK281
     clear HB
     have HO263 := n0_
     have BK280 := n1_
     have BK281 := n2_
     have HB := n3_
     clear n0_ n1_ n2_ n3_
     (try clear hb)
     (try clear hb2)
     (try clear hk)
     (try clear hi)
     refine hK.out _ _ ⟨(blk_cell BK280.out 0).trans rfl, (blk_cell BK280.out 1).trans rfl, (blk_cell BK280.out 2).trans rfl, (blk_cell BK280.out 3).trans rfl, (blk_cell BK280.out 4).trans rfl, (blk_cell BK280.out 5).trans rfl, (blk_cell BK280.out 6).trans rfl, (blk_cell BK280.out 7).trans rfl, (blk_cell BK281.out 0).trans rfl, (blk_cell BK281.out 1).trans rfl, (blk_cell BK281.out 2).trans rfl, (blk_cell BK281.out 3).trans rfl, (blk_cell BK281.out 4).trans rfl, (blk_cell BK281.out 5).trans rfl, (blk_cell BK281.out 6).trans rfl, (blk_cell BK281.out 7).trans rfl⟩ (fun hHeld => ?_)
     clear hK K
     refine norm_ (a' := ?_) ?_ ?_
     rotate_left
     ·show Act.put _ (some 19) _ = _
      simp only [Act.put, List.setIfInBounds_toArray, List.set_cons_zero, List.set_cons_succ, i64_w, i32_w]
      rfl
     refine one_ (i := 4) (N := some 22) #[true, true, true, true, true, false, false, false, false, false, false, false, false, false, false] rfl rfl (one_of HT_.out (by kernel_rfl)) (by decide) (fun K hK => ?_)
     refine goes_ Try.func25 (by kernel_rfl) rfl #[.agg #[.bool t264, .bool t265, .bool t266, .int .i64 t267, .string t268, .bool t269, .int .i64 t270, .string t271], .agg #[.bool t272, .bool t273, .bool t274, .int .i64 t275, .string t276, .bool t277, .int .i64 t278, .string t279]] (by rfl) rfl rfl (by (try simp only [List.map_toArray, List.map_cons, List.map_nil]); first | done | rfl | (simp only [List.length_drop, List.length_take]; rfl)) ?_
     with_reducible refine (zone_Join_c.calls t264 t265 t266 t267 t268 t269 t270 t271 t272 t273 t274 t275 t276 t277 t278 t279 t290 t291 t292 t293 t294 t295 t296 t297 _ A10.out).mono ?_
     rintro e w29 ⟨rfl, hb⟩
     refine ⟨_, rfl, ?_⟩
     have n0_ := Aside0.mk (Kd.R_below (by (with_reducible repeat (first | apply Kd.R_alloc | apply Kd.R_drewN | apply Kd.R_drew)); exact HO263.out) hb)
     have n1_ := Aside0.mk (blk_below (g := gb280) (o := .cells #[.bool t264, .bool t265, .bool t266, .int .i64 t267, .string t268, .bool t269, .int .i64 t270, .string t271] 41 (0, 0)) (by (with_reducible repeat (first | refine blk_drewN ?_ _ | refine blk_drew ?_ | refine blk_alloc ?_ _)); exact BK280.out) hb)
     have n2_ := Aside0.mk (blk_below (g := gb281) (o := .cells #[.bool t272, .bool t273, .bool t274, .int .i64 t275, .string t276, .bool t277, .int .i64 t278, .string t279] 41 (0, 0)) (by (with_reducible repeat (first | refine blk_drewN ?_ _ | refine blk_drew ?_ | refine blk_alloc ?_ _)); exact BK281.out) hb)
     have n3_ := Aside0.mk (below_step (by repeat (first | (with_reducible first | exact HB.out | apply below_alloc | apply pw_below_drewN | apply below_drew1 | refine below_set ?_ GE280.out | refine below_set ?_ GE281.out) | exact HB.out)) hb)
     clear HO263
     clear BK280
     clear BK281
     clear HB
     have HO263 := n0_
     have BK280 := n1_
     have BK281 := n2_
     have HB := n3_
     clear n0_ n1_ n2_ n3_
     (try clear hb)
     (try clear hb2)
     (try clear hk)
     (try clear hi)
     refine hK.out _ _ ⟨(blk_cell BK280.out 0).trans rfl, (blk_cell BK280.out 1).trans rfl, (blk_cell BK280.out 2).trans rfl, (blk_cell BK280.out 3).trans rfl, (blk_cell BK280.out 4).trans rfl, (blk_cell BK280.out 5).trans rfl, (blk_cell BK280.out 6).trans rfl, (blk_cell BK280.out 7).trans rfl, (blk_cell BK281.out 0).trans rfl, (blk_cell BK281.out 1).trans rfl, (blk_cell BK281.out 2).trans rfl, (blk_cell BK281.out 3).trans rfl, (blk_cell BK281.out 4).trans rfl, (blk_cell BK281.out 5).trans rfl, (blk_cell BK281.out 6).trans rfl, (blk_cell BK281.out 7).trans rfl⟩ (fun hHeld => ?_)
     clear hK K
     refine norm_ (a' := ?_) ?_ ?_
     rotate_left
     ·show Act.put _ (some 22) _ = _
      simp only [Act.put, List.setIfInBounds_toArray, List.set_cons_zero, List.set_cons_succ, i64_w, i32_w]
      rfl
     refine pure_ (i := 5) (N := some 23) (v := ?_) (a' := ?_) #[true, true, true, true, true, true, false, false, false, false, false, false, false, false, false] rfl rfl (any_of HT_.out (by kernel_rfl)) (fun _ _ _ h => h) (Or.inl ⟨by rfl, ?_⟩) ?_ ?_
     rotate_left
     ·intro w'
      go_simp
      with_reducible rfl
     rotate_left
     ·simp only [Act.put, List.setIfInBounds_toArray, List.set_cons_zero, List.set_cons_succ, i64_w, i32_w]
      rfl
     refine pure_ (i := 6) (N := some 24) (v := ?_) (a' := ?_) #[true, true, true, true, true, true, true, false, false, false, false, false, false, false, false] rfl rfl (any_of HT_.out (by kernel_rfl)) (fun _ _ _ h => h) (Or.inl ⟨by rfl, ?_⟩) ?_ ?_
     rotate_left
     ·intro w'
      go_simp
      with_reducible rfl
     rotate_left
     ·simp only [Act.put, List.setIfInBounds_toArray, List.set_cons_zero, List.set_cons_succ, i64_w, i32_w]
      rfl
     refine pure_ (i := 10) (N := some 28) (v := ?_) (a' := ?_) #[true, true, true, true, true, true, true, false, false, false, true, false, false, false, false] rfl rfl (any_of HT_.out (by kernel_rfl)) (fun _ _ _ h => h) (Or.inl ⟨by rfl, ?_⟩) ?_ ?_
     rotate_left
     ·intro w'
      go_simp
      with_reducible rfl
     rotate_left
     ·simp only [Act.put, List.setIfInBounds_toArray, List.set_cons_zero, List.set_cons_succ, i64_w, i32_w]
      rfl
     refine take_ (i := 7) (N := some 25) (v := ?_) (a' := ?_) #[true, true, true, true, true, true, true, true, false, false, true, false, false, false, false] rfl rfl (take_ofW HT_.out HW_.out (by kernel_rfl)) (fun _ _ _ h => h) (Or.inl ⟨by rfl, ?_⟩) hHeld ?_ ?_
     rotate_left
     ·rintro w' ⟨s0, s1, s2, s3, s4, s5, s6, s7, s8, s9, s10, s11, s12, s13, s14, s15⟩
      go_simp
      with_reducible rfl
     rotate_left
     ·simp only [Act.put, List.setIfInBounds_toArray, List.set_cons_zero, List.set_cons_succ, i64_w, i32_w]
      rfl
     refine take_ (i := 8) (N := some 26) (v := ?_) (a' := ?_) #[true, true, true, true, true, true, true, true, true, false, true, false, false, false, false] rfl rfl (take_ofW HT_.out HW_.out (by kernel_rfl)) (fun _ _ _ h => h) (Or.inl ⟨by rfl, ?_⟩) hHeld ?_ ?_
     rotate_left
     ·rintro w' ⟨s0, s1, s2, s3, s4, s5, s6, s7, s8, s9, s10, s11, s12, s13, s14, s15⟩
      go_simp
      with_reducible rfl
     rotate_left
     ·simp only [Act.put, List.setIfInBounds_toArray, List.set_cons_zero, List.set_cons_succ, i64_w, i32_w]
      rfl
     refine one_ (i := 9) (N := some 27) #[true, true, true, true, true, true, true, true, true, true, true, false, false, false, false] rfl rfl (one_of HT_.out (by kernel_rfl)) (by decide) (fun K hK => ?_)
     refine goes_ Try.func25 (by kernel_rfl) rfl #[.agg #[.bool t272, .bool t273, .bool t274, .int .i64 t275, .string t276, .bool t277, .int .i64 t278, .string t279], .agg #[.bool t264, .bool t265, .bool t266, .int .i64 t267, .string t268, .bool t269, .int .i64 t270, .string t271]] (by rfl) rfl rfl (by (try simp only [List.map_toArray, List.map_cons, List.map_nil]); first | done | rfl | (simp only [List.length_drop, List.length_take]; rfl)) ?_
     with_reducible refine (zone_Join_c.calls t272 t273 t274 t275 t276 t277 t278 t279 t264 t265 t266 t267 t268 t269 t270 t271 t298 t299 t300 t301 t302 t303 t304 t305 _ A12.out).mono ?_
     rintro e w30 ⟨rfl, hb⟩
     refine ⟨_, rfl, ?_⟩
     have n0_ := Aside0.mk (Kd.R_below (by (with_reducible repeat (first | apply Kd.R_alloc | apply Kd.R_drewN | apply Kd.R_drew)); exact HO263.out) hb)
     have n1_ := Aside0.mk (blk_below (g := gb280) (o := .cells #[.bool t264, .bool t265, .bool t266, .int .i64 t267, .string t268, .bool t269, .int .i64 t270, .string t271] 41 (0, 0)) (by (with_reducible repeat (first | refine blk_drewN ?_ _ | refine blk_drew ?_ | refine blk_alloc ?_ _)); exact BK280.out) hb)
     have n2_ := Aside0.mk (blk_below (g := gb281) (o := .cells #[.bool t272, .bool t273, .bool t274, .int .i64 t275, .string t276, .bool t277, .int .i64 t278, .string t279] 41 (0, 0)) (by (with_reducible repeat (first | refine blk_drewN ?_ _ | refine blk_drew ?_ | refine blk_alloc ?_ _)); exact BK281.out) hb)
     have n3_ := Aside0.mk (below_step (by repeat (first | (with_reducible first | exact HB.out | apply below_alloc | apply pw_below_drewN | apply below_drew1 | refine below_set ?_ GE280.out | refine below_set ?_ GE281.out) | exact HB.out)) hb)
     clear HO263
     clear BK280
     clear BK281
     clear HB
     have HO263 := n0_
     have BK280 := n1_
     have BK281 := n2_
     have HB := n3_
     clear n0_ n1_ n2_ n3_
     (try clear hb)
     (try clear hb2)
     (try clear hk)
     (try clear hi)
     refine hK.out _ _ ⟨(blk_cell BK280.out 0).trans rfl, (blk_cell BK280.out 1).trans rfl, (blk_cell BK280.out 2).trans rfl, (blk_cell BK280.out 3).trans rfl, (blk_cell BK280.out 4).trans rfl, (blk_cell BK280.out 5).trans rfl, (blk_cell BK280.out 6).trans rfl, (blk_cell BK280.out 7).trans rfl, (blk_cell BK281.out 0).trans rfl, (blk_cell BK281.out 1).trans rfl, (blk_cell BK281.out 2).trans rfl, (blk_cell BK281.out 3).trans rfl, (blk_cell BK281.out 4).trans rfl, (blk_cell BK281.out 5).trans rfl, (blk_cell BK281.out 6).trans rfl, (blk_cell BK281.out 7).trans rfl⟩ (fun hHeld => ?_)
     clear hK K
     refine norm_ (a' := ?_) ?_ ?_
     rotate_left
     ·show Act.put _ (some 27) _ = _
      simp only [Act.put, List.setIfInBounds_toArray, List.set_cons_zero, List.set_cons_succ, i64_w, i32_w]
      rfl
     refine one_ (i := 11) (N := some 29) #[true, true, true, true, true, true, true, true, true, true, true, true, false, false, false] rfl rfl (one_of HT_.out (by kernel_rfl)) (by decide) (fun K hK => ?_)
     refine goes_ Try.func22 (by kernel_rfl) rfl #[.slice Ao27 y261.length co27] (by rfl) rfl rfl (by (try simp only [List.map_toArray, List.map_cons, List.map_nil]); first | done | rfl | (simp only [List.length_drop, List.length_take]; rfl)) ?_
     with_reducible refine (zone_Of_c.calls _ _ y261 t306 t307 t308 t309 t310 t311 t312 t313 _ ?side1 ?side2 A13.out).mono ?_
     (case side1 => repeat (first | exact (Kd.R_reads' HO263.out).2.2 | (with_reducible refine Kd.C_alloc ?_ _) | (with_reducible refine Kd.C_drewN ?_ _) | (with_reducible refine Kd.C_drew ?_)))
     (case side2 => exact (Kd.R_reads' HO263.out).2.1)
     rintro e w31 ⟨rfl, hb⟩
     refine ⟨_, rfl, ?_⟩
     have n0_ := Aside0.mk (Kd.R_below (by (with_reducible repeat (first | apply Kd.R_alloc | apply Kd.R_drewN | apply Kd.R_drew)); exact HO263.out) hb)
     have n1_ := Aside0.mk (blk_below (g := gb280) (o := .cells #[.bool t264, .bool t265, .bool t266, .int .i64 t267, .string t268, .bool t269, .int .i64 t270, .string t271] 41 (0, 0)) (by (with_reducible repeat (first | refine blk_drewN ?_ _ | refine blk_drew ?_ | refine blk_alloc ?_ _)); exact BK280.out) hb)
     have n2_ := Aside0.mk (blk_below (g := gb281) (o := .cells #[.bool t272, .bool t273, .bool t274, .int .i64 t275, .string t276, .bool t277, .int .i64 t278, .string t279] 41 (0, 0)) (by (with_reducible repeat (first | refine blk_drewN ?_ _ | refine blk_drew ?_ | refine blk_alloc ?_ _)); exact BK281.out) hb)
     have n3_ := Aside0.mk (below_step (by repeat (first | (with_reducible first | exact HB.out | apply below_alloc | apply pw_below_drewN | apply below_drew1 | refine below_set ?_ GE280.out | refine below_set ?_ GE281.out) | exact HB.out)) hb)
     clear HO263
     clear BK280
     clear BK281
     clear HB
     have HO263 := n0_
     have BK280 := n1_
     have BK281 := n2_
     have HB := n3_
     clear n0_ n1_ n2_ n3_
     (try clear hb)
     (try clear hb2)
     (try clear hk)
     (try clear hi)
     refine hK.out _ _ ⟨(blk_cell BK280.out 0).trans rfl, (blk_cell BK280.out 1).trans rfl, (blk_cell BK280.out 2).trans rfl, (blk_cell BK280.out 3).trans rfl, (blk_cell BK280.out 4).trans rfl, (blk_cell BK280.out 5).trans rfl, (blk_cell BK280.out 6).trans rfl, (blk_cell BK280.out 7).trans rfl, (blk_cell BK281.out 0).trans rfl, (blk_cell BK281.out 1).trans rfl, (blk_cell BK281.out 2).trans rfl, (blk_cell BK281.out 3).trans rfl, (blk_cell BK281.out 4).trans rfl, (blk_cell BK281.out 5).trans rfl, (blk_cell BK281.out 6).trans rfl, (blk_cell BK281.out 7).trans rfl⟩ (fun hHeld => ?_)
     clear hK K
     refine norm_ (a' := ?_) ?_ ?_
     rotate_left
     ·show Act.put _ (some 29) _ = _
      simp only [Act.put, List.setIfInBounds_toArray, List.set_cons_zero, List.set_cons_succ, i64_w, i32_w]
      rfl
     refine one_ (i := 12) (N := some 30) #[true, true, true, true, true, true, true, true, true, true, true, true, true, false, false] rfl rfl (one_of HT_.out (by kernel_rfl)) (by decide) (fun K hK => ?_)
     refine goes_ Try.func26 (by kernel_rfl) rfl #[.agg #[.bool t298, .bool t299, .bool t300, .int .i64 t301, .string t302, .bool t303, .int .i64 t304, .string t305], .agg #[.bool t306, .bool t307, .bool t308, .int .i64 t309, .string t310, .bool t311, .int .i64 t312, .string t313]] (by rfl) rfl rfl (by (try simp only [List.map_toArray, List.map_cons, List.map_nil]); first | done | rfl | (simp only [List.length_drop, List.length_take]; rfl)) ?_
     with_reducible refine (tithebarnlaw11_alike.calls t298 t299 t300 t301 t302 t303 t304 t305 t306 t307 t308 t309 t310 t311 t312 t313 t314 _ A14.out).mono ?_
     rintro e w32 ⟨rfl, hb⟩
     refine ⟨_, rfl, ?_⟩
     have n0_ := Aside0.mk (Kd.R_below (by (with_reducible repeat (first | apply Kd.R_alloc | apply Kd.R_drewN | apply Kd.R_drew)); exact HO263.out) hb)
     have n1_ := Aside0.mk (blk_below (g := gb280) (o := .cells #[.bool t264, .bool t265, .bool t266, .int .i64 t267, .string t268, .bool t269, .int .i64 t270, .string t271] 41 (0, 0)) (by (with_reducible repeat (first | refine blk_drewN ?_ _ | refine blk_drew ?_ | refine blk_alloc ?_ _)); exact BK280.out) hb)
     have n2_ := Aside0.mk (blk_below (g := gb281) (o := .cells #[.bool t272, .bool t273, .bool t274, .int .i64 t275, .string t276, .bool t277, .int .i64 t278, .string t279] 41 (0, 0)) (by (with_reducible repeat (first | refine blk_drewN ?_ _ | refine blk_drew ?_ | refine blk_alloc ?_ _)); exact BK281.out) hb)
     have n3_ := Aside0.mk (below_step (by repeat (first | (with_reducible first | exact HB.out | apply below_alloc | apply pw_below_drewN | apply below_drew1 | refine below_set ?_ GE280.out | refine below_set ?_ GE281.out) | exact HB.out)) hb)
     clear HO263
     clear BK280
     clear BK281
     clear HB
     have HO263 := n0_
     have BK280 := n1_
     have BK281 := n2_
     have HB := n3_
     clear n0_ n1_ n2_ n3_
     (try clear hb)
     (try clear hb2)
     (try clear hk)
     (try clear hi)
     refine hK.out _ _ ⟨(blk_cell BK280.out 0).trans rfl, (blk_cell BK280.out 1).trans rfl, (blk_cell BK280.out 2).trans rfl, (blk_cell BK280.out 3).trans rfl, (blk_cell BK280.out 4).trans rfl, (blk_cell BK280.out 5).trans rfl, (blk_cell BK280.out 6).trans rfl, (blk_cell BK280.out 7).trans rfl, (blk_cell BK281.out 0).trans rfl, (blk_cell BK281.out 1).trans rfl, (blk_cell BK281.out 2).trans rfl, (blk_cell BK281.out 3).trans rfl, (blk_cell BK281.out 4).trans rfl, (blk_cell BK281.out 5).trans rfl, (blk_cell BK281.out 6).trans rfl, (blk_cell BK281.out 7).trans rfl⟩ (fun hHeld => ?_)
     clear hK K
     refine norm_ (a' := ?_) ?_ ?_
     rotate_left
     ·show Act.put _ (some 30) _ = _
      simp only [Act.put, List.setIfInBounds_toArray, List.set_cons_zero, List.set_cons_succ, i64_w, i32_w]
      rfl
     refine pure_ (i := 13) (N := some 31) (v := ?_) (a' := ?_) #[true, true, true, true, true, true, true, true, true, true, true, true, true, true, false] rfl rfl (any_of HT_.out (by kernel_rfl)) (fun _ _ _ h => h) (Or.inl ⟨by rfl, ?_⟩) ?_ ?_
     rotate_left
     ·intro w'
      go_simp
      with_reducible rfl
     rotate_left
     ·simp only [Act.put, List.setIfInBounds_toArray, List.set_cons_zero, List.set_cons_succ, i64_w, i32_w]
      rfl
     refine pure_ (i := 14) (N := some 4) (v := ?_) (a' := ?_) #[true, true, true, true, true, true, true, true, true, true, true, true, true, true, true] rfl rfl (any_of HT_.out (by kernel_rfl)) (fun _ _ _ h => h) (Or.inl ⟨by rfl, ?_⟩) ?_ ?_
     rotate_left
     ·intro w'
      go_simp
      with_reducible rfl
     rotate_left
     ·simp only [Act.put, List.setIfInBounds_toArray, List.set_cons_zero, List.set_cons_succ, i64_w, i32_w]
      rfl
     refine done_ (done_of HT_.out (by kernel_rfl)) ?_
     try go_wp2
     go_ret
     exact ⟨by first | rfl | (simp [errW_none, errW_some] <;> rfl) | (simp [*, errW_none, errW_some] <;> rfl), by repeat (first | (with_reducible first | exact HB.out | apply below_alloc | apply pw_below_drewN | apply below_drew1 | refine below_set ?_ GE280.out | refine below_set ?_ GE281.out) | exact HB.out)⟩
    ·rw [if_neg c11] at H
     have c11b0 : (t282 == t290 && (t283 == t291 && ((t284 == t292 && (t285 == t293 && (t286.toList == t294.toList))) && ((t287 == t295 && (t288 == t296 && (t289.toList == t297.toList))))))) = false := by simpa using c11
     (try (have c11q : ¬ (t282 == t290 && (t283 == t291 && ((t284 == t292 && (t285 == t293 && (t286.toList == t294.toList))) && ((t287 == t295 && (t288 == t296 && (t289.toList == t297.toList))))))) = true := (by simp only [c11b0]; exact Bool.false_ne_true); simp only [Bool.and_eq_true, Bool.not_eq_true', beq_iff_eq] at c11q))
     (try (have c11b1 : decide (t282 = t290 && (t283 == t291 && ((t284 == t292 && (t285 == t293 && (t286.toList == t294.toList))) && ((t287 == t295 && (t288 == t296 && (t289.toList == t297.toList))))))) = false := by simpa using c11))
     (try (have c11b2 : (t282 == t290 && (t283 == t291 && ((t284 == t292 && (t285 == t293 && (t286.toList == t294.toList))) && ((t287 == t295 && (t288 == t296 && (t289.toList == t297.toList))))))) = false := by simpa using c11))
     (try (have c11b3 : ¬ (t282 = t290 && (t283 == t291 && ((t284 == t292 && (t285 == t293 && (t286.toList == t294.toList))) && ((t287 == t295 && (t288 == t296 && (t289.toList == t297.toList))))))) := by simpa using c11))
     clear c11
     obtain rfl := Option.some.inj H
     go_enter Try.func7, Try.ntmps7
     try go_wp2_with (first | ((with_reducible refine gate_callee (f := 19) rfl ?_); refine goesL_ (some 8) rfl rfl Try.func19 (by kernel_rfl) rfl #[] rfl (by (try simp only [List.map_toArray, List.map_cons, List.map_nil]); first | done | rfl | (simp only [List.length_drop, List.length_take]; rfl)) ?_; (with_reducible refine (tithebarnlaw11_lives_c.calls  true _ A3.out).mono ?_); rintro e w33 ⟨rfl, hb⟩; refine ⟨_, rfl, ?_⟩; have n0_ := Aside0.mk (below_step (by repeat (first | (with_reducible first | exact HB.out | apply below_alloc | apply pw_below_drewN | apply below_drew1) | exact HB.out)) hb); clear HB; have HB := n0_; clear n0_; (try clear hb); (try clear hb2); (try clear hk); (try clear hi)) | ((with_reducible refine gate_builtin (b := .append) (xs := #[.const (.slice none 0 0), .tmp 10]) rfl ?_); at_builtin; refine Kd.R_append_rows k27 (w0 := w) w.heap.size rfl (.const (.slice none 0 0)) (.tmp 10) 22 27 (.agg #[(.bool false), (.int .i64 0), (.string ⟨#[]⟩)]) 32 rfl Try.underlying22 info27 rfl (by decide) (by omega) (.slice none 0 0) ([] : List (S27)) l0 _ _ _ (fun _ => True) (fun _ => False) rfl rfl ?aO ?aR (fun _ _ h => h) (fun _ h => h.elim) ?aF ?aB ?aS ?aL ?_; (case aR => repeat (first | exact (Kd.C_below HR0.out HB.out) | (with_reducible refine Kd.C_alloc ?_ _) | (with_reducible refine Kd.C_drewN ?_ _) | (with_reducible refine Kd.C_drew ?_))); (case aB => exact (by repeat (first | (with_reducible first | exact HB.out | apply below_alloc | apply pw_below_drewN | apply below_drew1) | exact HB.out))); (case aF => exact (fun _ _ => trivial)); (case aO => exact ((Kd.R_nil _ _ _ _ (fun _ => True)))); (case aS => exact (below_size (by repeat (first | (with_reducible first | exact HB.out | apply below_alloc | apply pw_below_drewN | apply below_drew1) | exact HB.out)))); (case aL => have := LMc5.out; omega); intro v259 w34 ho hb hg hat; rw [← Ny258.out] at ho; have n0_ := Aside0.mk (hb); have n1_ := Aside0.mk (ho); clear HB; have HB := n0_; have HO260 := n1_; clear n0_ n1_; clear ho hb hg hat) | ((with_reducible refine gate_builtin (b := .append) (xs := #[.tmp 11, .tmp 12]) rfl ?_); at_builtin; refine Kd.R_append_rows k27 (w0 := w) w.heap.size rfl (.tmp 11) (.tmp 12) 22 27 (.agg #[(.bool false), (.int .i64 0), (.string ⟨#[]⟩)]) 32 rfl Try.underlying22 info27 rfl (by decide) (by omega) v259 y258 l1 _ _ _ (fun _ => True) (fun _ => False) rfl rfl ?aO ?aR (fun _ _ h => h) (fun _ h => h.elim) ?aF ?aB ?aS ?aL ?_; (case aR => repeat (first | exact (Kd.C_below HR1.out HB.out) | (with_reducible refine Kd.C_alloc ?_ _) | (with_reducible refine Kd.C_drewN ?_ _) | (with_reducible refine Kd.C_drew ?_))); (case aB => exact (by repeat (first | (with_reducible first | exact HB.out | apply below_alloc | apply pw_below_drewN | apply below_drew1) | exact HB.out))); (case aF => exact (fun _ _ => trivial)); (case aO => exact (by (with_reducible repeat (first | apply Kd.R_alloc | apply Kd.R_drewN | apply Kd.R_drew)); exact HO260.out)); (case aS => exact (below_size (by repeat (first | (with_reducible first | exact HB.out | apply below_alloc | apply pw_below_drewN | apply below_drew1) | exact HB.out)))); (case aL => have := LMc6.out; omega); intro v262 w35 ho hb hg hat; rw [← Ny261.out] at ho; have n0_ := Aside0.mk (hb); have n1_ := Aside0.mk (ho); clear HB; clear HO260; have HB := n0_; have HO263 := n1_; clear n0_ n1_; clear ho hb hg hat) | ((with_reducible refine gate_callee (f := 22) rfl ?_); refine goesL_ (some 15) rfl rfl Try.func22 (by kernel_rfl) rfl #[.slice A0 l0.length c0] rfl (by (try simp only [List.map_toArray, List.map_cons, List.map_nil]); first | done | rfl | (simp only [List.length_drop, List.length_take]; rfl)) ?_; (with_reducible refine (zone_Of_c.calls _ _ l0 t264 t265 t266 t267 t268 t269 t270 t271 _ ?side1 ?side2 A7.out).mono ?_); (case side1 => repeat (first | exact (Kd.C_below HR0.out HB.out) | (with_reducible refine Kd.C_alloc ?_ _) | (with_reducible refine Kd.C_drewN ?_ _) | (with_reducible refine Kd.C_drew ?_))); (case side2 => exact HC0.out); rintro e w36 ⟨rfl, hb⟩; refine ⟨_, rfl, ?_⟩; have n0_ := Aside0.mk (Kd.R_below (by (with_reducible repeat (first | apply Kd.R_alloc | apply Kd.R_drewN | apply Kd.R_drew)); exact HO263.out) hb); have n1_ := Aside0.mk (below_step (by repeat (first | (with_reducible first | exact HB.out | apply below_alloc | apply pw_below_drewN | apply below_drew1) | exact HB.out)) hb); clear HO263; clear HB; have HO263 := n0_; have HB := n1_; clear n0_ n1_; (try clear hb); (try clear hb2); (try clear hk); (try clear hi)) | ((with_reducible refine gate_callee (f := 22) rfl ?_); refine goesL_ (some 17) rfl rfl Try.func22 (by kernel_rfl) rfl #[.slice A1 l1.length c1] rfl (by (try simp only [List.map_toArray, List.map_cons, List.map_nil]); first | done | rfl | (simp only [List.length_drop, List.length_take]; rfl)) ?_; (with_reducible refine (zone_Of_c.calls _ _ l1 t272 t273 t274 t275 t276 t277 t278 t279 _ ?side1 ?side2 A8.out).mono ?_); (case side1 => repeat (first | exact (Kd.C_below HR1.out HB.out) | (with_reducible refine Kd.C_alloc ?_ _) | (with_reducible refine Kd.C_drewN ?_ _) | (with_reducible refine Kd.C_drew ?_))); (case side2 => exact HC1.out); rintro e w37 ⟨rfl, hb⟩; refine ⟨_, rfl, ?_⟩; have n0_ := Aside0.mk (Kd.R_below (by (with_reducible repeat (first | apply Kd.R_alloc | apply Kd.R_drewN | apply Kd.R_drew)); exact HO263.out) hb); have n1_ := Aside0.mk (below_step (by repeat (first | (with_reducible first | exact HB.out | apply below_alloc | apply pw_below_drewN | apply below_drew1) | exact HB.out)) hb); clear HO263; clear HB; have HO263 := n0_; have HB := n1_; clear n0_ n1_; (try clear hb); (try clear hb2); (try clear hk); (try clear hi)) | ((with_reducible refine gate_dst (N := 6) rfl ?_); refine box_event ?hg (N := 6) ?hd (cs := #[.bool false, .bool false, .bool false, .int .i64 0, .string (⟨#[]⟩ : ByteArray), .bool false, .int .i64 0, .string (⟨#[]⟩ : ByteArray)]) (t := 41) ?hr ?_; (case hd => rfl); (case hg => rfl); (case hr => first | (go_simp; done) | (go_simp; rfl)); intro gb280 hg w38 hbox hb; have n0_ := Aside0.mk (Kd.R_below (by (with_reducible repeat (first | apply Kd.R_alloc | apply Kd.R_drewN | apply Kd.R_drew)); exact HO263.out) hb); have n1_ := Aside0.mk (below_step (by repeat (first | (with_reducible first | exact HB.out | apply below_alloc | apply pw_below_drewN | apply below_drew1) | exact HB.out)) hb); have n2_ := Aside0.mk (hbox); have n3_ := Aside0.mk ((by rw [hg]; exact (below_size (by repeat (first | (with_reducible first | exact HB.out | apply below_alloc | apply pw_below_drewN | apply below_drew1) | exact HB.out))) : w.heap.size ≤ gb280)); have n4_ := Aside0.mk ((by rw [hg]; exact (below_size (by repeat (first | (with_reducible first | exact HB.out | apply below_alloc | apply pw_below_drewN | apply below_drew1) | exact HB.out))) : w.heap.size ≤ gb280)); clear HO263; clear HB; have HO263 := n0_; have HB := n1_; have BK280 := n2_; have GW280 := n3_; have GE280 := n4_; clear n0_ n1_ n2_ n3_ n4_; clear hb hbox hg) | ((with_reducible refine gate_dst (N := 7) rfl ?_); refine box_event ?hg (N := 7) ?hd (cs := #[.bool false, .bool false, .bool false, .int .i64 0, .string (⟨#[]⟩ : ByteArray), .bool false, .int .i64 0, .string (⟨#[]⟩ : ByteArray)]) (t := 41) ?hr ?_; (case hd => rfl); (case hg => rfl); (case hr => first | (go_simp; done) | (go_simp; rfl)); intro gb281 hg w39 hbox hb; have n0_ := Aside0.mk (Kd.R_below (by (with_reducible repeat (first | apply Kd.R_alloc | apply Kd.R_drewN | apply Kd.R_drew)); exact HO263.out) hb); have n1_ := Aside0.mk (blk_below (g := gb280) (o := .cells #[.bool false, .bool false, .bool false, .int .i64 0, .string (⟨#[]⟩ : ByteArray), .bool false, .int .i64 0, .string (⟨#[]⟩ : ByteArray)] 41 (0, 0)) (by (with_reducible repeat (first | refine blk_drewN ?_ _ | refine blk_drew ?_ | refine blk_alloc ?_ _)); exact BK280.out) hb); have n2_ := Aside0.mk (below_step (by repeat (first | (with_reducible first | exact HB.out | apply below_alloc | apply pw_below_drewN | apply below_drew1 | refine below_set ?_ GE280.out) | exact HB.out)) hb); have n3_ := Aside0.mk (hbox); have n4_ := Aside0.mk ((by rw [hg]; exact (below_size (by repeat (first | (with_reducible first | exact HB.out | apply below_alloc | apply pw_below_drewN | apply below_drew1 | refine below_set ?_ GE280.out) | exact HB.out))) : w.heap.size ≤ gb281)); have n5_ := Aside0.mk ((by rw [hg]; exact (below_size (by repeat (first | (with_reducible first | exact HB.out | apply below_alloc | apply pw_below_drewN | apply below_drew1 | refine below_set ?_ GE280.out) | exact HB.out))) : w.heap.size ≤ gb281)); have n6_ := Aside0.mk ((by rw [hg]; exact Nat.ne_of_lt (blk_lt (g := gb280) (o := .cells #[.bool false, .bool false, .bool false, .int .i64 0, .string (⟨#[]⟩ : ByteArray), .bool false, .int .i64 0, .string (⟨#[]⟩ : ByteArray)] 41 (0, 0)) (by (with_reducible repeat (first | refine blk_drewN ?_ _ | refine blk_drew ?_ | refine blk_alloc ?_ _)); exact BK280.out)) : gb280 ≠ gb281)); have n7_ := Aside0.mk ((by rw [hg]; exact Nat.ne_of_gt (blk_lt (g := gb280) (o := .cells #[.bool false, .bool false, .bool false, .int .i64 0, .string (⟨#[]⟩ : ByteArray), .bool false, .int .i64 0, .string (⟨#[]⟩ : ByteArray)] 41 (0, 0)) (by (with_reducible repeat (first | refine blk_drewN ?_ _ | refine blk_drew ?_ | refine blk_alloc ?_ _)); exact BK280.out)) : gb281 ≠ gb280)); clear HO263; clear BK280; clear HB; have HO263 := n0_; have BK280 := n1_; have HB := n2_; have BK281 := n3_; have GW281 := n4_; have GE281 := n5_; have NB280_281 := n6_; have NB281_280 := n7_; clear n0_ n1_ n2_ n3_ n4_ n5_ n6_ n7_; clear hb hbox hg; have hnb40 := NB280_281.out; have hnc40 := NB281_280.out; have hcz41_0 : w39.cell? ⟨gb280, 0, none⟩ = some (.bool false) := (blk_cell BK280.out 0).trans rfl; have hcz41_1 : w39.cell? ⟨gb280, 1, none⟩ = some (.bool false) := (blk_cell BK280.out 1).trans rfl; have hcz41_2 : w39.cell? ⟨gb280, 2, none⟩ = some (.bool false) := (blk_cell BK280.out 2).trans rfl; have hcz41_3 : w39.cell? ⟨gb280, 3, none⟩ = some (.int .i64 0) := (blk_cell BK280.out 3).trans rfl; have hcz41_4 : w39.cell? ⟨gb280, 4, none⟩ = some (.string (⟨#[]⟩ : ByteArray)) := (blk_cell BK280.out 4).trans rfl; have hcz41_5 : w39.cell? ⟨gb280, 5, none⟩ = some (.bool false) := (blk_cell BK280.out 5).trans rfl; have hcz41_6 : w39.cell? ⟨gb280, 6, none⟩ = some (.int .i64 0) := (blk_cell BK280.out 6).trans rfl; have hcz41_7 : w39.cell? ⟨gb280, 7, none⟩ = some (.string (⟨#[]⟩ : ByteArray)) := (blk_cell BK280.out 7).trans rfl; have hfz41_0 := blk_frozen BK280.out 0; have hfz41_1 := blk_frozen BK280.out 1; have hfz41_2 := blk_frozen BK280.out 2; have hfz41_3 := blk_frozen BK280.out 3; have hfz41_4 := blk_frozen BK280.out 4; have hfz41_5 := blk_frozen BK280.out 5; have hfz41_6 := blk_frozen BK280.out 6; have hfz41_7 := blk_frozen BK280.out 7; have hcz42_0 : w39.cell? ⟨gb281, 0, none⟩ = some (.bool false) := (blk_cell BK281.out 0).trans rfl; have hcz42_1 : w39.cell? ⟨gb281, 1, none⟩ = some (.bool false) := (blk_cell BK281.out 1).trans rfl; have hcz42_2 : w39.cell? ⟨gb281, 2, none⟩ = some (.bool false) := (blk_cell BK281.out 2).trans rfl; have hcz42_3 : w39.cell? ⟨gb281, 3, none⟩ = some (.int .i64 0) := (blk_cell BK281.out 3).trans rfl; have hcz42_4 : w39.cell? ⟨gb281, 4, none⟩ = some (.string (⟨#[]⟩ : ByteArray)) := (blk_cell BK281.out 4).trans rfl; have hcz42_5 : w39.cell? ⟨gb281, 5, none⟩ = some (.bool false) := (blk_cell BK281.out 5).trans rfl; have hcz42_6 : w39.cell? ⟨gb281, 6, none⟩ = some (.int .i64 0) := (blk_cell BK281.out 6).trans rfl; have hcz42_7 : w39.cell? ⟨gb281, 7, none⟩ = some (.string (⟨#[]⟩ : ByteArray)) := (blk_cell BK281.out 7).trans rfl; have hfz42_0 := blk_frozen BK281.out 0; have hfz42_1 := blk_frozen BK281.out 1; have hfz42_2 := blk_frozen BK281.out 2; have hfz42_3 := blk_frozen BK281.out 3; have hfz42_4 := blk_frozen BK281.out 4; have hfz42_5 := blk_frozen BK281.out 5; have hfz42_6 := blk_frozen BK281.out 6; have hfz42_7 := blk_frozen BK281.out 7))
     have n0_ : Aside0 (Kd.R k27 27 ((((((((((((((((w39.setCell ⟨gb280, 0, none⟩ (.bool t264)).setCell ⟨gb280, 1, none⟩ (.bool t265)).setCell ⟨gb280, 2, none⟩ (.bool t266)).setCell ⟨gb280, 3, none⟩ (.int .i64 t267)).setCell ⟨gb280, 4, none⟩ (.string t268)).setCell ⟨gb280, 5, none⟩ (.bool t269)).setCell ⟨gb280, 6, none⟩ (.int .i64 t270)).setCell ⟨gb280, 7, none⟩ (.string t271)).setCell ⟨gb281, 0, none⟩ (.bool t272)).setCell ⟨gb281, 1, none⟩ (.bool t273)).setCell ⟨gb281, 2, none⟩ (.bool t274)).setCell ⟨gb281, 3, none⟩ (.int .i64 t275)).setCell ⟨gb281, 4, none⟩ (.string t276)).setCell ⟨gb281, 5, none⟩ (.bool t277)).setCell ⟨gb281, 6, none⟩ (.int .i64 t278)).setCell ⟨gb281, 7, none⟩ (.string t279)) w.heap.size (fun _ => True) v262 y261) := ⟨by (with_reducible repeat (first | apply Kd.R_alloc | apply Kd.R_drewN | apply Kd.R_drew)); exact Kd.R_mono (Kd.R_far (p := ⟨gb281, 7, none⟩) (Kd.R_far (p := ⟨gb281, 6, none⟩) (Kd.R_far (p := ⟨gb281, 5, none⟩) (Kd.R_far (p := ⟨gb281, 4, none⟩) (Kd.R_far (p := ⟨gb281, 3, none⟩) (Kd.R_far (p := ⟨gb281, 2, none⟩) (Kd.R_far (p := ⟨gb281, 1, none⟩) (Kd.R_far (p := ⟨gb281, 0, none⟩) (Kd.R_far (p := ⟨gb280, 7, none⟩) (Kd.R_far (p := ⟨gb280, 6, none⟩) (Kd.R_far (p := ⟨gb280, 5, none⟩) (Kd.R_far (p := ⟨gb280, 4, none⟩) (Kd.R_far (p := ⟨gb280, 3, none⟩) (Kd.R_far (p := ⟨gb280, 2, none⟩) (Kd.R_far (p := ⟨gb280, 1, none⟩) (Kd.R_far (p := ⟨gb280, 0, none⟩) (Kd.R_types (Kd.R_types HO263.out BK280.out (by decide)) BK281.out (by decide)) (fun _ hk => hk.1.2) (.bool t264)) (fun _ hk => hk.1.2) (.bool t265)) (fun _ hk => hk.1.2) (.bool t266)) (fun _ hk => hk.1.2) (.int .i64 t267)) (fun _ hk => hk.1.2) (.string t268)) (fun _ hk => hk.1.2) (.bool t269)) (fun _ hk => hk.1.2) (.int .i64 t270)) (fun _ hk => hk.1.2) (.string t271)) (fun _ hk => hk.2) (.bool t272)) (fun _ hk => hk.2) (.bool t273)) (fun _ hk => hk.2) (.bool t274)) (fun _ hk => hk.2) (.int .i64 t275)) (fun _ hk => hk.2) (.string t276)) (fun _ hk => hk.2) (.bool t277)) (fun _ hk => hk.2) (.int .i64 t278)) (fun _ hk => hk.2) (.string t279)) (fun _ hk => trivial)⟩
     have n1_ : Aside0 (((((((((((((((((w39.setCell ⟨gb280, 0, none⟩ (.bool t264)).setCell ⟨gb280, 1, none⟩ (.bool t265)).setCell ⟨gb280, 2, none⟩ (.bool t266)).setCell ⟨gb280, 3, none⟩ (.int .i64 t267)).setCell ⟨gb280, 4, none⟩ (.string t268)).setCell ⟨gb280, 5, none⟩ (.bool t269)).setCell ⟨gb280, 6, none⟩ (.int .i64 t270)).setCell ⟨gb280, 7, none⟩ (.string t271)).setCell ⟨gb281, 0, none⟩ (.bool t272)).setCell ⟨gb281, 1, none⟩ (.bool t273)).setCell ⟨gb281, 2, none⟩ (.bool t274)).setCell ⟨gb281, 3, none⟩ (.int .i64 t275)).setCell ⟨gb281, 4, none⟩ (.string t276)).setCell ⟨gb281, 5, none⟩ (.bool t277)).setCell ⟨gb281, 6, none⟩ (.int .i64 t278)).setCell ⟨gb281, 7, none⟩ (.string t279)).heap[gb280]? = some (.cells #[.bool t264, .bool t265, .bool t266, .int .i64 t267, .string t268, .bool t269, .int .i64 t270, .string t271] 41 (0, 0))) := ⟨by (with_reducible repeat (first | refine blk_drewN ?_ _ | refine blk_drew ?_ | refine blk_alloc ?_ _)); refine blk_far ?_ NB280_281.out _; (with_reducible repeat (first | refine blk_drewN ?_ _ | refine blk_drew ?_ | refine blk_alloc ?_ _)); refine blk_far ?_ NB280_281.out _; (with_reducible repeat (first | refine blk_drewN ?_ _ | refine blk_drew ?_ | refine blk_alloc ?_ _)); refine blk_far ?_ NB280_281.out _; (with_reducible repeat (first | refine blk_drewN ?_ _ | refine blk_drew ?_ | refine blk_alloc ?_ _)); refine blk_far ?_ NB280_281.out _; (with_reducible repeat (first | refine blk_drewN ?_ _ | refine blk_drew ?_ | refine blk_alloc ?_ _)); refine blk_far ?_ NB280_281.out _; (with_reducible repeat (first | refine blk_drewN ?_ _ | refine blk_drew ?_ | refine blk_alloc ?_ _)); refine blk_far ?_ NB280_281.out _; (with_reducible repeat (first | refine blk_drewN ?_ _ | refine blk_drew ?_ | refine blk_alloc ?_ _)); refine blk_far ?_ NB280_281.out _; (with_reducible repeat (first | refine blk_drewN ?_ _ | refine blk_drew ?_ | refine blk_alloc ?_ _)); refine blk_far ?_ NB280_281.out _; (with_reducible repeat (first | refine blk_drewN ?_ _ | refine blk_drew ?_ | refine blk_alloc ?_ _)); refine blk_put (cs := #[.bool t264, .bool t265, .bool t266, .int .i64 t267, .string t268, .bool t269, .int .i64 t270, .string (⟨#[]⟩ : ByteArray)]) ?_ 7 _ rfl; (with_reducible repeat (first | refine blk_drewN ?_ _ | refine blk_drew ?_ | refine blk_alloc ?_ _)); refine blk_put (cs := #[.bool t264, .bool t265, .bool t266, .int .i64 t267, .string t268, .bool t269, .int .i64 0, .string (⟨#[]⟩ : ByteArray)]) ?_ 6 _ rfl; (with_reducible repeat (first | refine blk_drewN ?_ _ | refine blk_drew ?_ | refine blk_alloc ?_ _)); refine blk_put (cs := #[.bool t264, .bool t265, .bool t266, .int .i64 t267, .string t268, .bool false, .int .i64 0, .string (⟨#[]⟩ : ByteArray)]) ?_ 5 _ rfl; (with_reducible repeat (first | refine blk_drewN ?_ _ | refine blk_drew ?_ | refine blk_alloc ?_ _)); refine blk_put (cs := #[.bool t264, .bool t265, .bool t266, .int .i64 t267, .string (⟨#[]⟩ : ByteArray), .bool false, .int .i64 0, .string (⟨#[]⟩ : ByteArray)]) ?_ 4 _ rfl; (with_reducible repeat (first | refine blk_drewN ?_ _ | refine blk_drew ?_ | refine blk_alloc ?_ _)); refine blk_put (cs := #[.bool t264, .bool t265, .bool t266, .int .i64 0, .string (⟨#[]⟩ : ByteArray), .bool false, .int .i64 0, .string (⟨#[]⟩ : ByteArray)]) ?_ 3 _ rfl; (with_reducible repeat (first | refine blk_drewN ?_ _ | refine blk_drew ?_ | refine blk_alloc ?_ _)); refine blk_put (cs := #[.bool t264, .bool t265, .bool false, .int .i64 0, .string (⟨#[]⟩ : ByteArray), .bool false, .int .i64 0, .string (⟨#[]⟩ : ByteArray)]) ?_ 2 _ rfl; (with_reducible repeat (first | refine blk_drewN ?_ _ | refine blk_drew ?_ | refine blk_alloc ?_ _)); refine blk_put (cs := #[.bool t264, .bool false, .bool false, .int .i64 0, .string (⟨#[]⟩ : ByteArray), .bool false, .int .i64 0, .string (⟨#[]⟩ : ByteArray)]) ?_ 1 _ rfl; (with_reducible repeat (first | refine blk_drewN ?_ _ | refine blk_drew ?_ | refine blk_alloc ?_ _)); refine blk_put (cs := #[.bool false, .bool false, .bool false, .int .i64 0, .string (⟨#[]⟩ : ByteArray), .bool false, .int .i64 0, .string (⟨#[]⟩ : ByteArray)]) ?_ 0 _ rfl; (with_reducible repeat (first | refine blk_drewN ?_ _ | refine blk_drew ?_ | refine blk_alloc ?_ _)); exact BK280.out⟩
     have n2_ : Aside0 (((((((((((((((((w39.setCell ⟨gb280, 0, none⟩ (.bool t264)).setCell ⟨gb280, 1, none⟩ (.bool t265)).setCell ⟨gb280, 2, none⟩ (.bool t266)).setCell ⟨gb280, 3, none⟩ (.int .i64 t267)).setCell ⟨gb280, 4, none⟩ (.string t268)).setCell ⟨gb280, 5, none⟩ (.bool t269)).setCell ⟨gb280, 6, none⟩ (.int .i64 t270)).setCell ⟨gb280, 7, none⟩ (.string t271)).setCell ⟨gb281, 0, none⟩ (.bool t272)).setCell ⟨gb281, 1, none⟩ (.bool t273)).setCell ⟨gb281, 2, none⟩ (.bool t274)).setCell ⟨gb281, 3, none⟩ (.int .i64 t275)).setCell ⟨gb281, 4, none⟩ (.string t276)).setCell ⟨gb281, 5, none⟩ (.bool t277)).setCell ⟨gb281, 6, none⟩ (.int .i64 t278)).setCell ⟨gb281, 7, none⟩ (.string t279)).heap[gb281]? = some (.cells #[.bool t272, .bool t273, .bool t274, .int .i64 t275, .string t276, .bool t277, .int .i64 t278, .string t279] 41 (0, 0))) := ⟨by (with_reducible repeat (first | refine blk_drewN ?_ _ | refine blk_drew ?_ | refine blk_alloc ?_ _)); refine blk_put (cs := #[.bool t272, .bool t273, .bool t274, .int .i64 t275, .string t276, .bool t277, .int .i64 t278, .string (⟨#[]⟩ : ByteArray)]) ?_ 7 _ rfl; (with_reducible repeat (first | refine blk_drewN ?_ _ | refine blk_drew ?_ | refine blk_alloc ?_ _)); refine blk_put (cs := #[.bool t272, .bool t273, .bool t274, .int .i64 t275, .string t276, .bool t277, .int .i64 0, .string (⟨#[]⟩ : ByteArray)]) ?_ 6 _ rfl; (with_reducible repeat (first | refine blk_drewN ?_ _ | refine blk_drew ?_ | refine blk_alloc ?_ _)); refine blk_put (cs := #[.bool t272, .bool t273, .bool t274, .int .i64 t275, .string t276, .bool false, .int .i64 0, .string (⟨#[]⟩ : ByteArray)]) ?_ 5 _ rfl; (with_reducible repeat (first | refine blk_drewN ?_ _ | refine blk_drew ?_ | refine blk_alloc ?_ _)); refine blk_put (cs := #[.bool t272, .bool t273, .bool t274, .int .i64 t275, .string (⟨#[]⟩ : ByteArray), .bool false, .int .i64 0, .string (⟨#[]⟩ : ByteArray)]) ?_ 4 _ rfl; (with_reducible repeat (first | refine blk_drewN ?_ _ | refine blk_drew ?_ | refine blk_alloc ?_ _)); refine blk_put (cs := #[.bool t272, .bool t273, .bool t274, .int .i64 0, .string (⟨#[]⟩ : ByteArray), .bool false, .int .i64 0, .string (⟨#[]⟩ : ByteArray)]) ?_ 3 _ rfl; (with_reducible repeat (first | refine blk_drewN ?_ _ | refine blk_drew ?_ | refine blk_alloc ?_ _)); refine blk_put (cs := #[.bool t272, .bool t273, .bool false, .int .i64 0, .string (⟨#[]⟩ : ByteArray), .bool false, .int .i64 0, .string (⟨#[]⟩ : ByteArray)]) ?_ 2 _ rfl; (with_reducible repeat (first | refine blk_drewN ?_ _ | refine blk_drew ?_ | refine blk_alloc ?_ _)); refine blk_put (cs := #[.bool t272, .bool false, .bool false, .int .i64 0, .string (⟨#[]⟩ : ByteArray), .bool false, .int .i64 0, .string (⟨#[]⟩ : ByteArray)]) ?_ 1 _ rfl; (with_reducible repeat (first | refine blk_drewN ?_ _ | refine blk_drew ?_ | refine blk_alloc ?_ _)); refine blk_put (cs := #[.bool false, .bool false, .bool false, .int .i64 0, .string (⟨#[]⟩ : ByteArray), .bool false, .int .i64 0, .string (⟨#[]⟩ : ByteArray)]) ?_ 0 _ rfl; (with_reducible repeat (first | refine blk_drewN ?_ _ | refine blk_drew ?_ | refine blk_alloc ?_ _)); refine blk_far ?_ NB281_280.out _; (with_reducible repeat (first | refine blk_drewN ?_ _ | refine blk_drew ?_ | refine blk_alloc ?_ _)); refine blk_far ?_ NB281_280.out _; (with_reducible repeat (first | refine blk_drewN ?_ _ | refine blk_drew ?_ | refine blk_alloc ?_ _)); refine blk_far ?_ NB281_280.out _; (with_reducible repeat (first | refine blk_drewN ?_ _ | refine blk_drew ?_ | refine blk_alloc ?_ _)); refine blk_far ?_ NB281_280.out _; (with_reducible repeat (first | refine blk_drewN ?_ _ | refine blk_drew ?_ | refine blk_alloc ?_ _)); refine blk_far ?_ NB281_280.out _; (with_reducible repeat (first | refine blk_drewN ?_ _ | refine blk_drew ?_ | refine blk_alloc ?_ _)); refine blk_far ?_ NB281_280.out _; (with_reducible repeat (first | refine blk_drewN ?_ _ | refine blk_drew ?_ | refine blk_alloc ?_ _)); refine blk_far ?_ NB281_280.out _; (with_reducible repeat (first | refine blk_drewN ?_ _ | refine blk_drew ?_ | refine blk_alloc ?_ _)); refine blk_far ?_ NB281_280.out _; (with_reducible repeat (first | refine blk_drewN ?_ _ | refine blk_drew ?_ | refine blk_alloc ?_ _)); exact BK281.out⟩
     have n3_ : Aside0 (Below w.heap.size w ((((((((((((((((w39.setCell ⟨gb280, 0, none⟩ (.bool t264)).setCell ⟨gb280, 1, none⟩ (.bool t265)).setCell ⟨gb280, 2, none⟩ (.bool t266)).setCell ⟨gb280, 3, none⟩ (.int .i64 t267)).setCell ⟨gb280, 4, none⟩ (.string t268)).setCell ⟨gb280, 5, none⟩ (.bool t269)).setCell ⟨gb280, 6, none⟩ (.int .i64 t270)).setCell ⟨gb280, 7, none⟩ (.string t271)).setCell ⟨gb281, 0, none⟩ (.bool t272)).setCell ⟨gb281, 1, none⟩ (.bool t273)).setCell ⟨gb281, 2, none⟩ (.bool t274)).setCell ⟨gb281, 3, none⟩ (.int .i64 t275)).setCell ⟨gb281, 4, none⟩ (.string t276)).setCell ⟨gb281, 5, none⟩ (.bool t277)).setCell ⟨gb281, 6, none⟩ (.int .i64 t278)).setCell ⟨gb281, 7, none⟩ (.string t279))) := ⟨by repeat (first | (with_reducible first | exact HB.out | apply below_alloc | apply pw_below_drewN | apply below_drew1 | refine below_set ?_ GE280.out | refine below_set ?_ GE281.out) | exact HB.out)⟩
     (try clear HO263)
     (try clear BK280)
     (try clear BK281)
     (try clear HB)
     generalize ((((((((((((((((w39.setCell ⟨gb280, 0, none⟩ (.bool t264)).setCell ⟨gb280, 1, none⟩ (.bool t265)).setCell ⟨gb280, 2, none⟩ (.bool t266)).setCell ⟨gb280, 3, none⟩ (.int .i64 t267)).setCell ⟨gb280, 4, none⟩ (.string t268)).setCell ⟨gb280, 5, none⟩ (.bool t269)).setCell ⟨gb280, 6, none⟩ (.int .i64 t270)).setCell ⟨gb280, 7, none⟩ (.string t271)).setCell ⟨gb281, 0, none⟩ (.bool t272)).setCell ⟨gb281, 1, none⟩ (.bool t273)).setCell ⟨gb281, 2, none⟩ (.bool t274)).setCell ⟨gb281, 3, none⟩ (.int .i64 t275)).setCell ⟨gb281, 4, none⟩ (.string t276)).setCell ⟨gb281, 5, none⟩ (.bool t277)).setCell ⟨gb281, 6, none⟩ (.int .i64 t278)).setCell ⟨gb281, 7, none⟩ (.string t279)) = w43 at n0_ n1_ n2_ n3_ ⊢
     have HO263 := n0_
     have BK280 := n1_
     have BK281 := n2_
     have HB := n3_
     clear n0_ n1_ n2_ n3_
     have n0_ := Aside0.mk (Kd.R_drew HO263.out)
     have n1_ := Aside0.mk (blk_drew BK280.out)
     have n2_ := Aside0.mk (blk_drew BK281.out)
     have n3_ := Aside0.mk (below_drew1 HB.out)
     clear HO263
     clear BK280
     clear BK281
     clear HB
     have HO263 := n0_
     have BK280 := n1_
     have BK281 := n2_
     have HB := n3_
     clear n0_ n1_ n2_ n3_
     obtain ⟨Ao45, co45, eo45⟩ := Kd.R_slice HO263.out
     (first | subst eo45 | (injection eo45 with f1_ f2_ f3_; have f4_ := f1_.symm; have f5_ := f3_.symm; clear f1_ f2_ f3_; subst f4_; subst f5_))
     refine start_ (n := 15) (S := fun w' => w'.cell? ⟨gb280, 0, none⟩ = some (.bool t264) ∧ w'.cell? ⟨gb280, 1, none⟩ = some (.bool t265) ∧ w'.cell? ⟨gb280, 2, none⟩ = some (.bool t266) ∧ w'.cell? ⟨gb280, 3, none⟩ = some (.int .i64 t267) ∧ w'.cell? ⟨gb280, 4, none⟩ = some (.string t268) ∧ w'.cell? ⟨gb280, 5, none⟩ = some (.bool t269) ∧ w'.cell? ⟨gb280, 6, none⟩ = some (.int .i64 t270) ∧ w'.cell? ⟨gb280, 7, none⟩ = some (.string t271) ∧ w'.cell? ⟨gb281, 0, none⟩ = some (.bool t272) ∧ w'.cell? ⟨gb281, 1, none⟩ = some (.bool t273) ∧ w'.cell? ⟨gb281, 2, none⟩ = some (.bool t274) ∧ w'.cell? ⟨gb281, 3, none⟩ = some (.int .i64 t275) ∧ w'.cell? ⟨gb281, 4, none⟩ = some (.string t276) ∧ w'.cell? ⟨gb281, 5, none⟩ = some (.bool t277) ∧ w'.cell? ⟨gb281, 6, none⟩ = some (.int .i64 t278) ∧ w'.cell? ⟨gb281, 7, none⟩ = some (.string t279)) (ds := []) #[false, false, false, false, false, false, false, false, false, false, false, false, false, false, false] (by kernel_rfl) rfl rfl ⟨(blk_cell BK280.out 0).trans rfl, (blk_cell BK280.out 1).trans rfl, (blk_cell BK280.out 2).trans rfl, (blk_cell BK280.out 3).trans rfl, (blk_cell BK280.out 4).trans rfl, (blk_cell BK280.out 5).trans rfl, (blk_cell BK280.out 6).trans rfl, (blk_cell BK280.out 7).trans rfl, (blk_cell BK281.out 0).trans rfl, (blk_cell BK281.out 1).trans rfl, (blk_cell BK281.out 2).trans rfl, (blk_cell BK281.out 3).trans rfl, (blk_cell BK281.out 4).trans rfl, (blk_cell BK281.out 5).trans rfl, (blk_cell BK281.out 6).trans rfl, (blk_cell BK281.out 7).trans rfl⟩ (fun hHeld => ?_); refine with_tabW tithebarnlaw11_ZoneJoin.tab5 tithebarnlaw11_ZoneJoin.bits5 (fun HT_ HW_ => ?_)
     generalize w43.drew = w44 at HO263 BK280 BK281 HB hHeld ⊢
     refine pure_ (i := 0) (N := some 18) (v := ?_) (a' := ?_) #[true, false, false, false, false, false, false, false, false, false, false, false, false, false, false] rfl rfl (any_of HT_.out (by kernel_rfl)) (fun _ _ _ h => h) (Or.inl ⟨by rfl, ?_⟩) ?_ ?_
     rotate_left
     ·intro w'
      go_simp
      with_reducible rfl
     rotate_left
     ·simp only [Act.put, List.setIfInBounds_toArray, List.set_cons_zero, List.set_cons_succ, i64_w, i32_w]
      rfl
     refine take_ (i := 2) (N := some 20) (v := ?_) (a' := ?_) #[true, false, true, false, false, false, false, false, false, false, false, false, false, false, false] rfl rfl (take_ofW HT_.out HW_.out (by kernel_rfl)) (fun _ _ _ h => h) (Or.inl ⟨by rfl, ?_⟩) hHeld ?_ ?_
     rotate_left
     ·rintro w' ⟨s0, s1, s2, s3, s4, s5, s6, s7, s8, s9, s10, s11, s12, s13, s14, s15⟩
      go_simp
      with_reducible rfl
     rotate_left
     ·simp only [Act.put, List.setIfInBounds_toArray, List.set_cons_zero, List.set_cons_succ, i64_w, i32_w]
      rfl
     refine take_ (i := 3) (N := some 21) (v := ?_) (a' := ?_) #[true, false, true, true, false, false, false, false, false, false, false, false, false, false, false] rfl rfl (take_ofW HT_.out HW_.out (by kernel_rfl)) (fun _ _ _ h => h) (Or.inl ⟨by rfl, ?_⟩) hHeld ?_ ?_
     rotate_left
     ·rintro w' ⟨s0, s1, s2, s3, s4, s5, s6, s7, s8, s9, s10, s11, s12, s13, s14, s15⟩
      go_simp
      with_reducible rfl
     rotate_left
     ·simp only [Act.put, List.setIfInBounds_toArray, List.set_cons_zero, List.set_cons_succ, i64_w, i32_w]
      rfl
     refine one_ (i := 1) (N := some 19) #[true, true, true, true, false, false, false, false, false, false, false, false, false, false, false] rfl rfl (one_of HT_.out (by kernel_rfl)) (by decide) (fun K hK => ?_)
     refine goes_ Try.func22 (by kernel_rfl) rfl #[.slice Ao45 y261.length co45] (by rfl) rfl rfl (by (try simp only [List.map_toArray, List.map_cons, List.map_nil]); first | done | rfl | (simp only [List.length_drop, List.length_take]; rfl)) ?_
     with_reducible refine (zone_Of_c.calls _ _ y261 t282 t283 t284 t285 t286 t287 t288 t289 _ ?side1 ?side2 A9.out).mono ?_
     (case side1 => repeat (first | exact (Kd.R_reads' HO263.out).2.2 | (with_reducible refine Kd.C_alloc ?_ _) | (with_reducible refine Kd.C_drewN ?_ _) | (with_reducible refine Kd.C_drew ?_)))
     (case side2 => exact (Kd.R_reads' HO263.out).2.1)
     rintro e w46 ⟨rfl, hb⟩
     refine ⟨_, rfl, ?_⟩
     have n0_ := Aside0.mk (Kd.R_below (by (with_reducible repeat (first | apply Kd.R_alloc | apply Kd.R_drewN | apply Kd.R_drew)); exact HO263.out) hb)
     have n1_ := Aside0.mk (blk_below (g := gb280) (o := .cells #[.bool t264, .bool t265, .bool t266, .int .i64 t267, .string t268, .bool t269, .int .i64 t270, .string t271] 41 (0, 0)) (by (with_reducible repeat (first | refine blk_drewN ?_ _ | refine blk_drew ?_ | refine blk_alloc ?_ _)); exact BK280.out) hb)
     have n2_ := Aside0.mk (blk_below (g := gb281) (o := .cells #[.bool t272, .bool t273, .bool t274, .int .i64 t275, .string t276, .bool t277, .int .i64 t278, .string t279] 41 (0, 0)) (by (with_reducible repeat (first | refine blk_drewN ?_ _ | refine blk_drew ?_ | refine blk_alloc ?_ _)); exact BK281.out) hb)
     have n3_ := Aside0.mk (below_step (by repeat (first | (with_reducible first | exact HB.out | apply below_alloc | apply pw_below_drewN | apply below_drew1 | refine below_set ?_ GE280.out | refine below_set ?_ GE281.out) | exact HB.out)) hb)
     clear HO263
     clear BK280
     clear BK281
     clear HB
     have HO263 := n0_
     have BK280 := n1_
     have BK281 := n2_
     have HB := n3_
     clear n0_ n1_ n2_ n3_
     (try clear hb)
     (try clear hb2)
     (try clear hk)
     (try clear hi)
     refine hK.out _ _ ⟨(blk_cell BK280.out 0).trans rfl, (blk_cell BK280.out 1).trans rfl, (blk_cell BK280.out 2).trans rfl, (blk_cell BK280.out 3).trans rfl, (blk_cell BK280.out 4).trans rfl, (blk_cell BK280.out 5).trans rfl, (blk_cell BK280.out 6).trans rfl, (blk_cell BK280.out 7).trans rfl, (blk_cell BK281.out 0).trans rfl, (blk_cell BK281.out 1).trans rfl, (blk_cell BK281.out 2).trans rfl, (blk_cell BK281.out 3).trans rfl, (blk_cell BK281.out 4).trans rfl, (blk_cell BK281.out 5).trans rfl, (blk_cell BK281.out 6).trans rfl, (blk_cell BK281.out 7).trans rfl⟩ (fun hHeld => ?_)
     clear hK K
     refine norm_ (a' := ?_) ?_ ?_
     rotate_left
     ·show Act.put _ (some 19) _ = _
      simp only [Act.put, List.setIfInBounds_toArray, List.set_cons_zero, List.set_cons_succ, i64_w, i32_w]
      rfl
     refine one_ (i := 4) (N := some 22) #[true, true, true, true, true, false, false, false, false, false, false, false, false, false, false] rfl rfl (one_of HT_.out (by kernel_rfl)) (by decide) (fun K hK => ?_)
     refine goes_ Try.func25 (by kernel_rfl) rfl #[.agg #[.bool t264, .bool t265, .bool t266, .int .i64 t267, .string t268, .bool t269, .int .i64 t270, .string t271], .agg #[.bool t272, .bool t273, .bool t274, .int .i64 t275, .string t276, .bool t277, .int .i64 t278, .string t279]] (by rfl) rfl rfl (by (try simp only [List.map_toArray, List.map_cons, List.map_nil]); first | done | rfl | (simp only [List.length_drop, List.length_take]; rfl)) ?_
     with_reducible refine (zone_Join_c.calls t264 t265 t266 t267 t268 t269 t270 t271 t272 t273 t274 t275 t276 t277 t278 t279 t290 t291 t292 t293 t294 t295 t296 t297 _ A10.out).mono ?_
     rintro e w47 ⟨rfl, hb⟩
     refine ⟨_, rfl, ?_⟩
     have n0_ := Aside0.mk (Kd.R_below (by (with_reducible repeat (first | apply Kd.R_alloc | apply Kd.R_drewN | apply Kd.R_drew)); exact HO263.out) hb)
     have n1_ := Aside0.mk (blk_below (g := gb280) (o := .cells #[.bool t264, .bool t265, .bool t266, .int .i64 t267, .string t268, .bool t269, .int .i64 t270, .string t271] 41 (0, 0)) (by (with_reducible repeat (first | refine blk_drewN ?_ _ | refine blk_drew ?_ | refine blk_alloc ?_ _)); exact BK280.out) hb)
     have n2_ := Aside0.mk (blk_below (g := gb281) (o := .cells #[.bool t272, .bool t273, .bool t274, .int .i64 t275, .string t276, .bool t277, .int .i64 t278, .string t279] 41 (0, 0)) (by (with_reducible repeat (first | refine blk_drewN ?_ _ | refine blk_drew ?_ | refine blk_alloc ?_ _)); exact BK281.out) hb)
     have n3_ := Aside0.mk (below_step (by repeat (first | (with_reducible first | exact HB.out | apply below_alloc | apply pw_below_drewN | apply below_drew1 | refine below_set ?_ GE280.out | refine below_set ?_ GE281.out) | exact HB.out)) hb)
     clear HO263
     clear BK280
     clear BK281
     clear HB
     have HO263 := n0_
     have BK280 := n1_
     have BK281 := n2_
     have HB := n3_
     clear n0_ n1_ n2_ n3_
     (try clear hb)
     (try clear hb2)
     (try clear hk)
     (try clear hi)
     refine hK.out _ _ ⟨(blk_cell BK280.out 0).trans rfl, (blk_cell BK280.out 1).trans rfl, (blk_cell BK280.out 2).trans rfl, (blk_cell BK280.out 3).trans rfl, (blk_cell BK280.out 4).trans rfl, (blk_cell BK280.out 5).trans rfl, (blk_cell BK280.out 6).trans rfl, (blk_cell BK280.out 7).trans rfl, (blk_cell BK281.out 0).trans rfl, (blk_cell BK281.out 1).trans rfl, (blk_cell BK281.out 2).trans rfl, (blk_cell BK281.out 3).trans rfl, (blk_cell BK281.out 4).trans rfl, (blk_cell BK281.out 5).trans rfl, (blk_cell BK281.out 6).trans rfl, (blk_cell BK281.out 7).trans rfl⟩ (fun hHeld => ?_)
     clear hK K
     refine norm_ (a' := ?_) ?_ ?_
     rotate_left
     ·show Act.put _ (some 22) _ = _
      simp only [Act.put, List.setIfInBounds_toArray, List.set_cons_zero, List.set_cons_succ, i64_w, i32_w]
      rfl
     refine pure_ (i := 5) (N := some 23) (v := ?_) (a' := ?_) #[true, true, true, true, true, true, false, false, false, false, false, false, false, false, false] rfl rfl (any_of HT_.out (by kernel_rfl)) (fun _ _ _ h => h) (Or.inl ⟨by rfl, ?_⟩) ?_ ?_
     rotate_left
     ·intro w'
      go_simp
      with_reducible rfl
     rotate_left
     ·simp only [Act.put, List.setIfInBounds_toArray, List.set_cons_zero, List.set_cons_succ, i64_w, i32_w]
      rfl
     refine pure_ (i := 6) (N := some 24) (v := ?_) (a' := ?_) #[true, true, true, true, true, true, true, false, false, false, false, false, false, false, false] rfl rfl (any_of HT_.out (by kernel_rfl)) (fun _ _ _ h => h) (Or.inl ⟨by rfl, ?_⟩) ?_ ?_
     rotate_left
     ·intro w'
      go_simp
      with_reducible rfl
     rotate_left
     ·simp only [Act.put, List.setIfInBounds_toArray, List.set_cons_zero, List.set_cons_succ, i64_w, i32_w]
      rfl
     refine pure_ (i := 7) (N := some 25) (v := undef) (a' := ?_) #[true, true, true, true, true, true, true, true, false, false, false, false, false, false, false] rfl rfl (any_of HT_.out (by kernel_rfl)) (fun _ _ _ h => h) (Or.inr ⟨by rfl, rfl⟩) ?_ ?_
     rotate_left
     ·simp only [Act.put, List.setIfInBounds_toArray, List.set_cons_zero, List.set_cons_succ, i64_w, i32_w]
      rfl
     refine pure_ (i := 8) (N := some 26) (v := undef) (a' := ?_) #[true, true, true, true, true, true, true, true, true, false, false, false, false, false, false] rfl rfl (any_of HT_.out (by kernel_rfl)) (fun _ _ _ h => h) (Or.inr ⟨by rfl, rfl⟩) ?_ ?_
     rotate_left
     ·simp only [Act.put, List.setIfInBounds_toArray, List.set_cons_zero, List.set_cons_succ, i64_w, i32_w]
      rfl
     refine pure_ (i := 9) (N := some 27) (v := undef) (a' := ?_) #[true, true, true, true, true, true, true, true, true, true, false, false, false, false, false] rfl rfl (any_of HT_.out (by kernel_rfl)) (fun _ _ _ h => h) (Or.inr ⟨by rfl, rfl⟩) ?_ ?_
     rotate_left
     ·simp only [Act.put, List.setIfInBounds_toArray, List.set_cons_zero, List.set_cons_succ, i64_w, i32_w]
      rfl
     refine pure_ (i := 10) (N := some 28) (v := undef) (a' := ?_) #[true, true, true, true, true, true, true, true, true, true, true, false, false, false, false] rfl rfl (any_of HT_.out (by kernel_rfl)) (fun _ _ _ h => h) (Or.inr ⟨by rfl, rfl⟩) ?_ ?_
     rotate_left
     ·simp only [Act.put, List.setIfInBounds_toArray, List.set_cons_zero, List.set_cons_succ, i64_w, i32_w]
      rfl
     refine pure_ (i := 11) (N := some 29) (v := undef) (a' := ?_) #[true, true, true, true, true, true, true, true, true, true, true, true, false, false, false] rfl rfl (any_of HT_.out (by kernel_rfl)) (fun _ _ _ h => h) (Or.inr ⟨by rfl, rfl⟩) ?_ ?_
     rotate_left
     ·simp only [Act.put, List.setIfInBounds_toArray, List.set_cons_zero, List.set_cons_succ, i64_w, i32_w]
      rfl
     refine pure_ (i := 12) (N := some 30) (v := undef) (a' := ?_) #[true, true, true, true, true, true, true, true, true, true, true, true, true, false, false] rfl rfl (any_of HT_.out (by kernel_rfl)) (fun _ _ _ h => h) (Or.inr ⟨by rfl, rfl⟩) ?_ ?_
     rotate_left
     ·simp only [Act.put, List.setIfInBounds_toArray, List.set_cons_zero, List.set_cons_succ, i64_w, i32_w]
      rfl
     refine pure_ (i := 13) (N := some 31) (v := ?_) (a' := ?_) #[true, true, true, true, true, true, true, true, true, true, true, true, true, true, false] rfl rfl (any_of HT_.out (by kernel_rfl)) (fun _ _ _ h => h) (Or.inl ⟨by rfl, ?_⟩) ?_ ?_
     rotate_left
     ·intro w'
      go_simp
      with_reducible rfl
     rotate_left
     ·simp only [Act.put, List.setIfInBounds_toArray, List.set_cons_zero, List.set_cons_succ, i64_w, i32_w]
      rfl
     refine pure_ (i := 14) (N := some 4) (v := ?_) (a' := ?_) #[true, true, true, true, true, true, true, true, true, true, true, true, true, true, true] rfl rfl (any_of HT_.out (by kernel_rfl)) (fun _ _ _ h => h) (Or.inl ⟨by rfl, ?_⟩) ?_ ?_
     rotate_left
     ·intro w'
      go_simp
      with_reducible rfl
     rotate_left
     ·simp only [Act.put, List.setIfInBounds_toArray, List.set_cons_zero, List.set_cons_succ, i64_w, i32_w]
      rfl
     refine done_ (done_of HT_.out (by kernel_rfl)) ?_
     try go_wp2
     go_ret
     exact ⟨by first | rfl | (simp [errW_none, errW_some] <;> rfl) | (simp [*, errW_none, errW_some] <;> rfl), by repeat (first | (with_reducible first | exact HB.out | apply below_alloc | apply pw_below_drewN | apply below_drew1 | refine below_set ?_ GE280.out | refine below_set ?_ GE281.out) | exact HB.out)⟩
   ·rw [if_neg c6] at H
    exact absurd H (by simp)
  ·rw [if_neg c5] at H
   exact absurd H (by simp)
 ·replace c4 := Bool.eq_false_iff.mpr c4
  subst c4
  have H1 : (some false) = some r := by rw [if_neg (show ¬ (false = true) by decide)] at H; exact H
  clear H
  have H := H1
  clear H1
  obtain rfl := Option.some.inj H
  go_enter Try.func7, Try.ntmps7
  go_wp2_with (first | ((with_reducible refine gate_callee (f := 19) rfl ?_); refine goesL_ (some 8) rfl rfl Try.func19 (by kernel_rfl) rfl #[] rfl (by (try simp only [List.map_toArray, List.map_cons, List.map_nil]); first | done | rfl | (simp only [List.length_drop, List.length_take]; rfl)) ?_; (with_reducible refine (tithebarnlaw11_lives_c.calls  false _ A3.out).mono ?_); rintro e w48 ⟨rfl, hb⟩; refine ⟨_, rfl, ?_⟩; have n0_ := Aside0.mk (below_step (by repeat (first | (with_reducible first | exact HB.out | apply below_alloc | apply pw_below_drewN | apply below_drew1) | exact HB.out)) hb); clear HB; have HB := n0_; clear n0_; (try clear hb); (try clear hb2); (try clear hk); (try clear hi)))
  go_ret
  exact ⟨by first | rfl | (simp [errW_none, errW_some] <;> rfl) | (simp [*, errW_none, errW_some] <;> rfl), by repeat (first | (with_reducible first | exact HB.out | apply below_alloc | apply pw_below_drewN | apply below_drew1) | exact HB.out)⟩

end Go.Proofs.Ytnfliommpdjlkaa.Pr
