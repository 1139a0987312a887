-- printed by xprint.py
import Derived.Test.YtcbgcmaioicdbaaPr0
import Derived.Test.YtcbgcmaioicdbaaPrf10
import Derived.Test.YtcbgcmaioicdbaaPrf15
import Derived.Test.YtcbgcmaioicdbaaPrf8
import Derived.Test.YtcbgcmaioicdbaaPrf9
import Derived.Test.YtcbgcmaioicdbaaPrf20
import Derived.Test.YtcbgcmaioicdbaaPrf17
import Derived.Test.YtcbgcmaioicdbaaPrf18
import Derived.Test.YtcbgcmaioicdbaaPrf19
namespace Go.Proofs.Ytcbgcmaioicdbaa.Pr
open Go.RowKit Go.Proofs.YtcbgcmaioicdbaaW PrintWords PrintLast PrintMore
set_option linter.unusedVariables false
set_option linter.unusedSimpArgs false

/-! ### tithebarnlaw17_LevelsNames: function 4 -/
mutual
def tithebarnlaw17_LevelsNames.j0 : Nat → List (S38) → Bool → Int → Int → List Int → Bool → Option (Bool)
 | 0, _, _, _, _, _, _ => none
 | k + 1, x0, x31, x350000, x350001, x350002, x350003 => if x31 = true then (some true) else (tithebarnlaw17_LevelsNames.l0 k x0 ([] : List (S38)) ([] : List Int) 0 x350000 x350001 x350002 x350003)
def tithebarnlaw17_LevelsNames.l0 : Nat → List (S38) → List (S38) → List Int → Int → Int → Int → List Int → Bool → Option (Bool)
 | 0, _, _, _, _, _, _, _, _ => none
 | k + 1, x0, x5, x6, x7, x350000, x350001, x350002, x350003 => if x7 < (x350002.length : Int) then (if 0 ≤ x7 then ((tithebarnlaw17_at.f k x0 (rd x350002 x7)).bind fun bt353 => (if bt353.2.2.2.2.2.2.2.2 = true then (if bt353.2.1 = x350000 then ((tithebarnlaw17_has.f k x6 bt353.1).bind fun t363 => (tithebarnlaw17_LevelsNames.j2 k x0 x5 x6 x7 t363 x350000 x350001 x350002 x350003 bt353.1 bt353.2.1 bt353.2.2.1 bt353.2.2.2.1 bt353.2.2.2.2.1 bt353.2.2.2.2.2.1 bt353.2.2.2.2.2.2.1 bt353.2.2.2.2.2.2.2.1)) else (if bt353.2.1 = x350001 then ((tithebarnlaw17_has.f k x6 bt353.1).bind fun t364 => (tithebarnlaw17_LevelsNames.j2 k x0 x5 x6 x7 t364 x350000 x350001 x350002 x350003 bt353.1 bt353.2.1 bt353.2.2.1 bt353.2.2.2.1 bt353.2.2.2.2.1 bt353.2.2.2.2.2.1 bt353.2.2.2.2.2.2.1 bt353.2.2.2.2.2.2.2.1)) else (tithebarnlaw17_LevelsNames.j2 k x0 x5 x6 x7 true x350000 x350001 x350002 x350003 bt353.1 bt353.2.1 bt353.2.2.1 bt353.2.2.2.1 bt353.2.2.2.2.1 bt353.2.2.2.2.2.1 bt353.2.2.2.2.2.2.1 bt353.2.2.2.2.2.2.2.1))) else (tithebarnlaw17_LevelsNames.j2 k x0 x5 x6 x7 true x350000 x350001 x350002 x350003 bt353.1 bt353.2.1 bt353.2.2.1 bt353.2.2.2.1 bt353.2.2.2.2.1 bt353.2.2.2.2.2.1 bt353.2.2.2.2.2.2.1 bt353.2.2.2.2.2.2.2.1))) else (none)) else (tithebarnlaw17_LevelsNames.l1 k x0 x5 x6 0 x350000 x350001 x350002 x350003)
def tithebarnlaw17_LevelsNames.j2 : Nat → List (S38) → List (S38) → List Int → Int → Bool → Int → Int → List Int → Bool → Int → Int → Bool → Int → ByteArray → Bool → Int → ByteArray → Option (Bool)
 | 0, _, _, _, _, _, _, _, _, _, _, _, _, _, _, _, _, _ => none
 | k + 1, x0, x5, x6, x7, x70, x350000, x350001, x350002, x350003, x363000, x363001, x363002, x363003, x363004, x363005, x363006, x363007 => if x70 = true then (some false) else (if x6.length < 17592186044416 then ((some (x6 ++ [x363000] : List Int)).bind fun y365 => (if x363001 = x350000 then (if x5.length < 1759218604441 then (tithebarnlaw17_LevelsNames.l0 k x0 (x5 ++ [(⟨x363000, x363001, (⟨x363002, x363003, x363004⟩ : S36), (⟨x363005, x363006, x363007⟩ : S36)⟩ : S38)]) y365 (wrap64 (x7 + 1)) x350000 x350001 x350002 x350003) else (none)) else (tithebarnlaw17_LevelsNames.l0 k x0 x5 y365 (wrap64 (x7 + 1)) x350000 x350001 x350002 x350003))) else (none))
def tithebarnlaw17_LevelsNames.l1 : Nat → List (S38) → List (S38) → List Int → Int → Int → Int → List Int → Bool → Option (Bool)
 | 0, _, _, _, _, _, _, _, _ => none
 | k + 1, x0, x5, x6, x10, x350000, x350001, x350002, x350003 => if x10 < (x0.length : Int) then (tithebarnlaw17_LevelsNames.l2 k x0 x5 x6 x10 0 x350000 x350001 x350002 x350003) else (if x350001 = (wrap64 (x350000 + 1)) then (some (decide ((x5.length : Int) > 0))) else (some false))
def tithebarnlaw17_LevelsNames.l2 : Nat → List (S38) → List (S38) → List Int → Int → Int → Int → Int → List Int → Bool → Option (Bool)
 | 0, _, _, _, _, _, _, _, _, _ => none
 | k + 1, x0, x5, x6, x10, x11, x350000, x350001, x350002, x350003 => if x11 < (x5.length : Int) then (if 0 ≤ x10 then (if x10 < (x0.length : Int) then (if ((rd_T38 x0 x10).f1) = x350001 then (if 0 ≤ x11 then ((tithebarnref17_Overlap.f ((rd_T38 x0 x10).f0) ((rd_T38 x0 x10).f1) ((rd_T38 x0 x10).f2.f0) ((rd_T38 x0 x10).f2.f1) ((rd_T38 x0 x10).f2.f2) ((rd_T38 x0 x10).f3.f0) ((rd_T38 x0 x10).f3.f1) ((rd_T38 x0 x10).f3.f2) ((rd_T38 x5 x11).f0) ((rd_T38 x5 x11).f1) ((rd_T38 x5 x11).f2.f0) ((rd_T38 x5 x11).f2.f1) ((rd_T38 x5 x11).f2.f2) ((rd_T38 x5 x11).f3.f0) ((rd_T38 x5 x11).f3.f1) ((rd_T38 x5 x11).f3.f2)).bind fun t374 => (if t374 = true then ((tithebarnlaw17_has.f k x6 ((rd_T38 x0 x10).f0)).bind fun t376 => (tithebarnlaw17_LevelsNames.j5 k x0 x5 x6 x10 x11 (!t376) x350000 x350001 x350002 x350003)) else (tithebarnlaw17_LevelsNames.j5 k x0 x5 x6 x10 x11 false x350000 x350001 x350002 x350003))) else (none)) else (tithebarnlaw17_LevelsNames.j5 k x0 x5 x6 x10 x11 false x350000 x350001 x350002 x350003)) else (none)) else (none)) else (if x350000 = 0 then (if 0 ≤ x10 then (if x10 < (x0.length : Int) then (if ((rd_T38 x0 x10).f1) = 0 then ((tithebarnlaw17_has.f k x6 ((rd_T38 x0 x10).f0)).bind fun t379 => (tithebarnlaw17_LevelsNames.j6 k x0 x5 x6 x10 (!t379) x350000 x350001 x350002 x350003)) else (tithebarnlaw17_LevelsNames.j6 k x0 x5 x6 x10 false x350000 x350001 x350002 x350003)) else (none)) else (none)) else (tithebarnlaw17_LevelsNames.j6 k x0 x5 x6 x10 false x350000 x350001 x350002 x350003))
def tithebarnlaw17_LevelsNames.j5 : Nat → List (S38) → List (S38) → List Int → Int → Int → Bool → Int → Int → List Int → Bool → Option (Bool)
 | 0, _, _, _, _, _, _, _, _, _, _ => none
 | k + 1, x0, x5, x6, x10, x11, x125, x350000, x350001, x350002, x350003 => if x125 = true then (some false) else (tithebarnlaw17_LevelsNames.l2 k x0 x5 x6 x10 (wrap64 (x11 + 1)) x350000 x350001 x350002 x350003)
def tithebarnlaw17_LevelsNames.j6 : Nat → List (S38) → List (S38) → List Int → Int → Bool → Int → Int → List Int → Bool → Option (Bool)
 | 0, _, _, _, _, _, _, _, _, _ => none
 | k + 1, x0, x5, x6, x10, x146, x350000, x350001, x350002, x350003 => if x146 = true then (some false) else (tithebarnlaw17_LevelsNames.l1 k x0 x5 x6 (wrap64 (x10 + 1)) x350000 x350001 x350002 x350003)
end
def tithebarnlaw17_LevelsNames.f (k : Nat) (l0 : List (S38)) : Option (Bool) := (tithebarnlaw17_lives_c.f k).bind fun t338 => (if t338 = true then ((tithebarnlaw17_early.f l0).bind fun t339 => ((levels_Pick.f t339).bind fun bt342 => ((levels_Calm.f t339).bind fun t350 => (if (bt342.2.2.2.2 == t350) = true then (some false) else (if bt342.2.2.2.2 = true then ((tithebarnlaw17_unlike.f k t339).bind fun t351 => (tithebarnlaw17_LevelsNames.j0 k t339 (!t351) bt342.1 bt342.2.1 bt342.2.2.1 bt342.2.2.2.1)) else (tithebarnlaw17_LevelsNames.j0 k t339 true bt342.1 bt342.2.1 bt342.2.2.1 bt342.2.2.2.1)))))) else (some false))
theorem tithebarnlaw17_LevelsNames.mono_l : ∀ k, (∀ y0 y1 y2 y3 y4 y5, LeO (tithebarnlaw17_LevelsNames.j0 k y0 y1 y2 y3 y4 y5) (tithebarnlaw17_LevelsNames.j0 (k + 1) y0 y1 y2 y3 y4 y5)) ∧ (∀ y0 y1 y2 y3 y4 y5 y6 y7, LeO (tithebarnlaw17_LevelsNames.l0 k y0 y1 y2 y3 y4 y5 y6 y7) (tithebarnlaw17_LevelsNames.l0 (k + 1) y0 y1 y2 y3 y4 y5 y6 y7)) ∧ (∀ y0 y1 y2 y3 y4 y5 y6 y7 y8 y9 y10 y11 y12 y13 y14 y15 y16, LeO (tithebarnlaw17_LevelsNames.j2 k y0 y1 y2 y3 y4 y5 y6 y7 y8 y9 y10 y11 y12 y13 y14 y15 y16) (tithebarnlaw17_LevelsNames.j2 (k + 1) y0 y1 y2 y3 y4 y5 y6 y7 y8 y9 y10 y11 y12 y13 y14 y15 y16)) ∧ (∀ y0 y1 y2 y3 y4 y5 y6 y7, LeO (tithebarnlaw17_LevelsNames.l1 k y0 y1 y2 y3 y4 y5 y6 y7) (tithebarnlaw17_LevelsNames.l1 (k + 1) y0 y1 y2 y3 y4 y5 y6 y7)) ∧ (∀ y0 y1 y2 y3 y4 y5 y6 y7 y8, LeO (tithebarnlaw17_LevelsNames.l2 k y0 y1 y2 y3 y4 y5 y6 y7 y8) (tithebarnlaw17_LevelsNames.l2 (k + 1) y0 y1 y2 y3 y4 y5 y6 y7 y8)) ∧ (∀ y0 y1 y2 y3 y4 y5 y6 y7 y8 y9, LeO (tithebarnlaw17_LevelsNames.j5 k y0 y1 y2 y3 y4 y5 y6 y7 y8 y9) (tithebarnlaw17_LevelsNames.j5 (k + 1) y0 y1 y2 y3 y4 y5 y6 y7 y8 y9)) ∧ (∀ y0 y1 y2 y3 y4 y5 y6 y7 y8, LeO (tithebarnlaw17_LevelsNames.j6 k y0 y1 y2 y3 y4 y5 y6 y7 y8) (tithebarnlaw17_LevelsNames.j6 (k + 1) y0 y1 y2 y3 y4 y5 y6 y7 y8))
 | 0 => ⟨fun _ _ _ _ _ _ r h => by simp [tithebarnlaw17_LevelsNames.j0] at h, fun _ _ _ _ _ _ _ _ r h => by simp [tithebarnlaw17_LevelsNames.l0] at h, fun _ _ _ _ _ _ _ _ _ _ _ _ _ _ _ _ _ r h => by simp [tithebarnlaw17_LevelsNames.j2] at h, fun _ _ _ _ _ _ _ _ r h => by simp [tithebarnlaw17_LevelsNames.l1] at h, fun _ _ _ _ _ _ _ _ _ r h => by simp [tithebarnlaw17_LevelsNames.l2] at h, fun _ _ _ _ _ _ _ _ _ _ r h => by simp [tithebarnlaw17_LevelsNames.j5] at h, fun _ _ _ _ _ _ _ _ _ r h => by simp [tithebarnlaw17_LevelsNames.j6] at h⟩
 | k + 1 => by
  obtain ⟨ih0, ih1, ih2, ih3, ih4, ih5, ih6⟩ := tithebarnlaw17_LevelsNames.mono_l k
  refine ⟨?_, ?_, ?_, ?_, ?_, ?_, ?_⟩
  ·intro y0 y1 y2 y3 y4 y5
   unfold tithebarnlaw17_LevelsNames.j0
   repeat' first
   | (with_reducible exact ih0 _ _ _ _ _ _)
   | (with_reducible exact ih1 _ _ _ _ _ _ _ _)
   | (with_reducible exact ih2 _ _ _ _ _ _ _ _ _ _ _ _ _ _ _ _ _)
   | (with_reducible exact ih3 _ _ _ _ _ _ _ _)
   | (with_reducible exact ih4 _ _ _ _ _ _ _ _ _)
   | (with_reducible exact ih5 _ _ _ _ _ _ _ _ _ _)
   | (with_reducible exact ih6 _ _ _ _ _ _ _ _ _)
   | (with_reducible exact tithebarnlaw17_at.mono _ _ _)
   | (with_reducible exact tithebarnlaw17_has.mono _ _ _)
   | (with_reducible exact tithebarnlaw17_lives_c.mono _)
   | (with_reducible exact tithebarnlaw17_unlike.mono _ _)
   | (with_reducible exact LeO.refl _)
   | (with_reducible exact LeO.none _)
   | (with_reducible refine LeO.ite ?_ ?_)
   | (with_reducible refine LeO.bind ?_ (fun _ => ?_))
  ·intro y0 y1 y2 y3 y4 y5 y6 y7
   unfold tithebarnlaw17_LevelsNames.l0
   repeat' first
   | (with_reducible exact ih0 _ _ _ _ _ _)
   | (with_reducible exact ih1 _ _ _ _ _ _ _ _)
   | (with_reducible exact ih2 _ _ _ _ _ _ _ _ _ _ _ _ _ _ _ _ _)
   | (with_reducible exact ih3 _ _ _ _ _ _ _ _)
   | (with_reducible exact ih4 _ _ _ _ _ _ _ _ _)
   | (with_reducible exact ih5 _ _ _ _ _ _ _ _ _ _)
   | (with_reducible exact ih6 _ _ _ _ _ _ _ _ _)
   | (with_reducible exact tithebarnlaw17_at.mono _ _ _)
   | (with_reducible exact tithebarnlaw17_has.mono _ _ _)
   | (with_reducible exact tithebarnlaw17_lives_c.mono _)
   | (with_reducible exact tithebarnlaw17_unlike.mono _ _)
   | (with_reducible exact LeO.refl _)
   | (with_reducible exact LeO.none _)
   | (with_reducible refine LeO.ite ?_ ?_)
   | (with_reducible refine LeO.bind ?_ (fun _ => ?_))
  ·intro y0 y1 y2 y3 y4 y5 y6 y7 y8 y9 y10 y11 y12 y13 y14 y15 y16
   unfold tithebarnlaw17_LevelsNames.j2
   repeat' first
   | (with_reducible exact ih0 _ _ _ _ _ _)
   | (with_reducible exact ih1 _ _ _ _ _ _ _ _)
   | (with_reducible exact ih2 _ _ _ _ _ _ _ _ _ _ _ _ _ _ _ _ _)
   | (with_reducible exact ih3 _ _ _ _ _ _ _ _)
   | (with_reducible exact ih4 _ _ _ _ _ _ _ _ _)
   | (with_reducible exact ih5 _ _ _ _ _ _ _ _ _ _)
   | (with_reducible exact ih6 _ _ _ _ _ _ _ _ _)
   | (with_reducible exact tithebarnlaw17_at.mono _ _ _)
   | (with_reducible exact tithebarnlaw17_has.mono _ _ _)
   | (with_reducible exact tithebarnlaw17_lives_c.mono _)
   | (with_reducible exact tithebarnlaw17_unlike.mono _ _)
   | (with_reducible exact LeO.refl _)
   | (with_reducible exact LeO.none _)
   | (with_reducible refine LeO.ite ?_ ?_)
   | (with_reducible refine LeO.bind ?_ (fun _ => ?_))
  ·intro y0 y1 y2 y3 y4 y5 y6 y7
   unfold tithebarnlaw17_LevelsNames.l1
   repeat' first
   | (with_reducible exact ih0 _ _ _ _ _ _)
   | (with_reducible exact ih1 _ _ _ _ _ _ _ _)
   | (with_reducible exact ih2 _ _ _ _ _ _ _ _ _ _ _ _ _ _ _ _ _)
   | (with_reducible exact ih3 _ _ _ _ _ _ _ _)
   | (with_reducible exact ih4 _ _ _ _ _ _ _ _ _)
   | (with_reducible exact ih5 _ _ _ _ _ _ _ _ _ _)
   | (with_reducible exact ih6 _ _ _ _ _ _ _ _ _)
   | (with_reducible exact tithebarnlaw17_at.mono _ _ _)
   | (with_reducible exact tithebarnlaw17_has.mono _ _ _)
   | (with_reducible exact tithebarnlaw17_lives_c.mono _)
   | (with_reducible exact tithebarnlaw17_unlike.mono _ _)
   | (with_reducible exact LeO.refl _)
   | (with_reducible exact LeO.none _)
   | (with_reducible refine LeO.ite ?_ ?_)
   | (with_reducible refine LeO.bind ?_ (fun _ => ?_))
  ·intro y0 y1 y2 y3 y4 y5 y6 y7 y8
   unfold tithebarnlaw17_LevelsNames.l2
   repeat' first
   | (with_reducible exact ih0 _ _ _ _ _ _)
   | (with_reducible exact ih1 _ _ _ _ _ _ _ _)
   | (with_reducible exact ih2 _ _ _ _ _ _ _ _ _ _ _ _ _ _ _ _ _)
   | (with_reducible exact ih3 _ _ _ _ _ _ _ _)
   | (with_reducible exact ih4 _ _ _ _ _ _ _ _ _)
   | (with_reducible exact ih5 _ _ _ _ _ _ _ _ _ _)
   | (with_reducible exact ih6 _ _ _ _ _ _ _ _ _)
   | (with_reducible exact tithebarnlaw17_at.mono _ _ _)
   | (with_reducible exact tithebarnlaw17_has.mono _ _ _)
   | (with_reducible exact tithebarnlaw17_lives_c.mono _)
   | (with_reducible exact tithebarnlaw17_unlike.mono _ _)
   | (with_reducible exact LeO.refl _)
   | (with_reducible exact LeO.none _)
   | (with_reducible refine LeO.ite ?_ ?_)
   | (with_reducible refine LeO.bind ?_ (fun _ => ?_))
  ·intro y0 y1 y2 y3 y4 y5 y6 y7 y8 y9
   unfold tithebarnlaw17_LevelsNames.j5
   repeat' first
   | (with_reducible exact ih0 _ _ _ _ _ _)
   | (with_reducible exact ih1 _ _ _ _ _ _ _ _)
   | (with_reducible exact ih2 _ _ _ _ _ _ _ _ _ _ _ _ _ _ _ _ _)
   | (with_reducible exact ih3 _ _ _ _ _ _ _ _)
   | (with_reducible exact ih4 _ _ _ _ _ _ _ _ _)
   | (with_reducible exact ih5 _ _ _ _ _ _ _ _ _ _)
   | (with_reducible exact ih6 _ _ _ _ _ _ _ _ _)
   | (with_reducible exact tithebarnlaw17_at.mono _ _ _)
   | (with_reducible exact tithebarnlaw17_has.mono _ _ _)
   | (with_reducible exact tithebarnlaw17_lives_c.mono _)
   | (with_reducible exact tithebarnlaw17_unlike.mono _ _)
   | (with_reducible exact LeO.refl _)
   | (with_reducible exact LeO.none _)
   | (with_reducible refine LeO.ite ?_ ?_)
   | (with_reducible refine LeO.bind ?_ (fun _ => ?_))
  ·intro y0 y1 y2 y3 y4 y5 y6 y7 y8
   unfold tithebarnlaw17_LevelsNames.j6
   repeat' first
   | (with_reducible exact ih0 _ _ _ _ _ _)
   | (with_reducible exact ih1 _ _ _ _ _ _ _ _)
   | (with_reducible exact ih2 _ _ _ _ _ _ _ _ _ _ _ _ _ _ _ _ _)
   | (with_reducible exact ih3 _ _ _ _ _ _ _ _)
   | (with_reducible exact ih4 _ _ _ _ _ _ _ _ _)
   | (with_reducible exact ih5 _ _ _ _ _ _ _ _ _ _)
   | (with_reducible exact ih6 _ _ _ _ _ _ _ _ _)
   | (with_reducible exact tithebarnlaw17_at.mono _ _ _)
   | (with_reducible exact tithebarnlaw17_has.mono _ _ _)
   | (with_reducible exact tithebarnlaw17_lives_c.mono _)
   | (with_reducible exact tithebarnlaw17_unlike.mono _ _)
   | (with_reducible exact LeO.refl _)
   | (with_reducible exact LeO.none _)
   | (with_reducible refine LeO.ite ?_ ?_)
   | (with_reducible refine LeO.bind ?_ (fun _ => ?_))
theorem tithebarnlaw17_LevelsNames.mono : ∀ a0 k, LeO (tithebarnlaw17_LevelsNames.f k a0) (tithebarnlaw17_LevelsNames.f (k + 1) a0) := by
 intro a0 k
 obtain ⟨ih0, ih1, ih2, ih3, ih4, ih5, ih6⟩ := tithebarnlaw17_LevelsNames.mono_l k
 unfold tithebarnlaw17_LevelsNames.f
 repeat' first
   | (with_reducible exact ih0 _ _ _ _ _ _)
   | (with_reducible exact ih1 _ _ _ _ _ _ _ _)
   | (with_reducible exact ih2 _ _ _ _ _ _ _ _ _ _ _ _ _ _ _ _ _)
   | (with_reducible exact ih3 _ _ _ _ _ _ _ _)
   | (with_reducible exact ih4 _ _ _ _ _ _ _ _ _)
   | (with_reducible exact ih5 _ _ _ _ _ _ _ _ _ _)
   | (with_reducible exact ih6 _ _ _ _ _ _ _ _ _)
   | (with_reducible exact tithebarnlaw17_at.mono _ _ _)
   | (with_reducible exact tithebarnlaw17_has.mono _ _ _)
   | (with_reducible exact tithebarnlaw17_lives_c.mono _)
   | (with_reducible exact tithebarnlaw17_unlike.mono _ _)
   | (with_reducible exact LeO.refl _)
   | (with_reducible exact LeO.none _)
   | (with_reducible refine LeO.ite ?_ ?_)
   | (with_reducible refine LeO.bind ?_ (fun _ => ?_))
def tithebarnlaw17_LevelsNames.T26 : Bool × List (List Nat × List Nat) := (true, [([], []), ([], []), ([0, 1], [0, 1]), ([2], [2]), ([3], [3]), ([], []), ([5], [5]), ([4, 6], [4, 6]), ([7], [7]), ([8], [8]), ([8], [8]), ([9, 10, 8], [8, 9, 10]), ([11, 8], [8, 11]), ([8], [8]), ([8], [8]), ([13, 14, 8], [8, 13, 14]), ([15, 8], [8, 15]), ([12, 16, 8, 8], [8, 12, 16]), ([8, 17], [8, 17]), ([18, 17], [18]), ([19], [19]), ([19], [19]), ([19], [19]), ([21, 22, 19], [19, 21, 22]), ([23, 19], [19, 23]), ([24, 19], [19, 24]), ([20, 25, 19, 19], [19, 20, 25]), ([26, 19], [19, 26]), ([19, 27], [19, 27])])
def tithebarnlaw17_LevelsNames.B26 : List Nat := [0, 0, 3, 7, 15, 0, 32, 127, 255, 511, 511, 2047, 4095, 511, 511, 25087, 57855, 131071, 262143, 524287, 1048575, 1048575, 1048575, 7340031, 15728639, 32505855, 67108863, 134217727, 268435455]
theorem tithebarnlaw17_LevelsNames.tab26 : rtab .any (opsOf Try.f4 26) = tithebarnlaw17_LevelsNames.T26 := by kernel_rfl
theorem tithebarnlaw17_LevelsNames.bits26 : waitsOk tithebarnlaw17_LevelsNames.T26.2 tithebarnlaw17_LevelsNames.B26 = true := by kernel_rfl
set_option maxHeartbeats 8000000 in
set_option maxRecDepth 100000 in
theorem tithebarnlaw17_LevelsNames.calls (k : Nat) (A0 : Option Addr) (c0 : Nat) (l0 : List (S38)) (r : Bool) (w : World) (hr0 : Kd.C k38 w A0 l0.length l0) (hc0 : l0.length ≤ c0) (h : tithebarnlaw17_LevelsNames.f k l0 = some r) :
  Calls Try.prog 4 #[.slice A0 l0.length c0] w fun e w' => e = .returned (.bool r) ∧ Below w.heap.size w w' := by
 have hu27 := Try.underlying27
 have hu38 := Try.underlying38
 have HR0 := Aside0.mk hr0
 have HC0 := Aside0.mk hc0
 clear hr0 hc0
 have HB := Aside0.mk (Below.refl w.heap.size w)
 have H : ((tithebarnlaw17_lives_c.f k).bind fun t338 => (if t338 = true then ((tithebarnlaw17_early.f l0).bind fun t339 => ((levels_Pick.f t339).bind fun bt342 => ((levels_Calm.f t339).bind fun t350 => (if (bt342.2.2.2.2 == t350) = true then (some false) else (if bt342.2.2.2.2 = true then ((tithebarnlaw17_unlike.f k t339).bind fun t351 => (tithebarnlaw17_LevelsNames.j0 k t339 (!t351) bt342.1 bt342.2.1 bt342.2.2.1 bt342.2.2.2.1)) else (tithebarnlaw17_LevelsNames.j0 k t339 true bt342.1 bt342.2.1 bt342.2.2.1 bt342.2.2.2.1)))))) else (some false))) = some r := h
 clear h
 replace H := Option.bind_eq_some_iff.mp H
 obtain ⟨t338, A20, H⟩ := H
 replace H : (if t338 = true then ((tithebarnlaw17_early.f l0).bind fun t339 => ((levels_Pick.f t339).bind fun bt342 => ((levels_Calm.f t339).bind fun t350 => (if (bt342.2.2.2.2 == t350) = true then (some false) else (if bt342.2.2.2.2 = true then ((tithebarnlaw17_unlike.f k t339).bind fun t351 => (tithebarnlaw17_LevelsNames.j0 k t339 (!t351) bt342.1 bt342.2.1 bt342.2.2.1 bt342.2.2.2.1)) else (tithebarnlaw17_LevelsNames.j0 k t339 true bt342.1 bt342.2.1 bt342.2.2.1 bt342.2.2.2.1)))))) else (some false)) = some r := H
 have A2 := Aside0.mk A20
 clear A20
 by_cases c3 : t338 = true
 ·subst c3
  have H1 : ((tithebarnlaw17_early.f l0).bind fun t339 => ((levels_Pick.f t339).bind fun bt342 => ((levels_Calm.f t339).bind fun t350 => (if (bt342.2.2.2.2 == t350) = true then (some false) else (if bt342.2.2.2.2 = true then ((tithebarnlaw17_unlike.f k t339).bind fun t351 => (tithebarnlaw17_LevelsNames.j0 k t339 (!t351) bt342.1 bt342.2.1 bt342.2.2.1 bt342.2.2.2.1)) else (tithebarnlaw17_LevelsNames.j0 k t339 true bt342.1 bt342.2.1 bt342.2.2.1 bt342.2.2.2.1)))))) = some r := by rw [if_pos rfl] at H; exact H
  clear H
  have H := H1
  clear H1
  replace H := Option.bind_eq_some_iff.mp H
  obtain ⟨t339, A40, H⟩ := H
  replace H : ((levels_Pick.f t339).bind fun bt342 => ((levels_Calm.f t339).bind fun t350 => (if (bt342.2.2.2.2 == t350) = true then (some false) else (if bt342.2.2.2.2 = true then ((tithebarnlaw17_unlike.f k t339).bind fun t351 => (tithebarnlaw17_LevelsNames.j0 k t339 (!t351) bt342.1 bt342.2.1 bt342.2.2.1 bt342.2.2.2.1)) else (tithebarnlaw17_LevelsNames.j0 k t339 true bt342.1 bt342.2.1 bt342.2.2.1 bt342.2.2.2.1))))) = some r := H
  have A4 := Aside0.mk A40
  clear A40
  replace H := Option.bind_eq_some_iff.mp H
  obtain ⟨⟨t342, t343, t344, t347, t348⟩, A50, H⟩ := H
  replace H : ((levels_Calm.f t339).bind fun t350 => (if (t348 == t350) = true then (some false) else (if t348 = true then ((tithebarnlaw17_unlike.f k t339).bind fun t351 => (tithebarnlaw17_LevelsNames.j0 k t339 (!t351) t342 t343 t344 t347)) else (tithebarnlaw17_LevelsNames.j0 k t339 true t342 t343 t344 t347)))) = some r := H
  have A5 := Aside0.mk A50
  clear A50
  replace H := Option.bind_eq_some_iff.mp H
  obtain ⟨t350, A60, H⟩ := H
  replace H : (if (t348 == t350) = true then (some false) else (if t348 = true then ((tithebarnlaw17_unlike.f k t339).bind fun t351 => (tithebarnlaw17_LevelsNames.j0 k t339 (!t351) t342 t343 t344 t347)) else (tithebarnlaw17_LevelsNames.j0 k t339 true t342 t343 t344 t347))) = some r := H
  have A6 := Aside0.mk A60
  clear A60
  by_cases c7 : (t348 == t350) = true
  ·rw [if_pos c7] at H
   have c7b0 : (t348 == t350) = true := c7
   (try (have c7b1 : decide (t348 = t350) = true := by simpa using c7))
   (try (have c7b2 : (t348 == t350) = true := by simpa using c7))
   clear c7
   obtain rfl := Option.some.inj H
   go_enter Try.func4, Try.ntmps4
   go_wp2_with (first | ((with_reducible refine gate_callee (f := 8) rfl ?_); refine goesL_ (some 12) rfl rfl Try.func8 (by kernel_rfl) rfl #[] rfl (by (try simp only [List.map_toArray, List.map_cons, List.map_nil]); first | done | rfl | (simp only [List.length_drop, List.length_take]; rfl)) ?_; (with_reducible refine (tithebarnlaw17_lives_c.calls k  true _ A2.out).mono ?_); rintro e w8 ⟨rfl, hb⟩; refine ⟨_, rfl, ?_⟩; have n0_ := Aside0.mk (below_step (by with_reducible repeat first | exact HB.out | apply below_alloc | apply pw_below_drewN | apply below_drew1) hb); clear HB; have HB := n0_; clear n0_; (try clear hb); (try clear hb2); (try clear hk); (try clear hi)) | ((with_reducible refine gate_callee (f := 9) rfl ?_); refine goesL_ (some 15) rfl rfl Try.func9 (by kernel_rfl) rfl #[.slice A0 l0.length c0] rfl (by (try simp only [List.map_toArray, List.map_cons, List.map_nil]); first | done | rfl | (simp only [List.length_drop, List.length_take]; rfl)) ?_; (with_reducible refine (tithebarnlaw17_early.calls (fun k_ => k_ < w.heap.size) _ _ l0 t339 _ ?side1 A4.out).mono ?_); (case side1 => exact Kd.V_mk HC0.out (Kd.F_below (Kd.C_F k38_heap HR0.out) (by with_reducible repeat first | exact HB.out | apply below_alloc | apply pw_below_drewN | apply below_drew1))); rintro e w9 ⟨v340, rfl, ho0, hb⟩; refine ⟨_, rfl, ?_⟩; have n0_ := Aside0.mk (Kd.V_lower (Kd.V_mono (ok' := fun k_ => True) ho0 (fun k_ hk_ => trivial)) (below_size (by with_reducible repeat first | exact HB.out | apply below_alloc | apply pw_below_drewN | apply below_drew1))); have n1_ := Aside0.mk (below_step (by with_reducible repeat first | exact HB.out | apply below_alloc | apply pw_below_drewN | apply below_drew1) hb); clear HB; have HO341 := n0_; have HB := n1_; clear n0_ n1_; (try clear hb); (try clear hb2); (try clear hk); (try clear hi); (try clear ho0); obtain ⟨Ao10, co10, eo10⟩ := Kd.V_slice HO341.out; subst eo10) | ((with_reducible refine gate_callee (f := 10) rfl ?_); refine goesL_ (some 18) rfl rfl Try.func10 (by kernel_rfl) rfl #[.slice Ao10 t339.length co10] rfl (by (try simp only [List.map_toArray, List.map_cons, List.map_nil]); first | done | rfl | (simp only [List.length_drop, List.length_take]; rfl)) ?_; (with_reducible refine (levels_Pick.calls _ _ t339 t342 t343 t344 t347 t348 _ ?side1 ?side2 A5.out).mono ?_); (case side1 => repeat (first | exact (Kd.V_reads' HO341.out).2.2 | (with_reducible refine Kd.C_alloc ?_ _) | (with_reducible refine Kd.C_drewN ?_ _) | (with_reducible refine Kd.C_drew ?_))); (case side2 => exact (Kd.V_reads' HO341.out).2.1); rintro e w11 ⟨v345, rfl, ho0, hb⟩; refine ⟨_, rfl, ?_⟩; have n0_ := Aside0.mk (Kd.V_elder' (by (with_reducible repeat (first | apply Kd.V_alloc | apply Kd.V_drewN | apply Kd.V_drew)); exact HO341.out) (Kd.R_base ho0) hb); have n1_ := Aside0.mk (Kd.R_lower ho0 (below_size (by with_reducible repeat first | exact HB.out | apply below_alloc | apply pw_below_drewN | apply below_drew1))); have n2_ := Aside0.mk (below_step (by with_reducible repeat first | exact HB.out | apply below_alloc | apply pw_below_drewN | apply below_drew1) hb); clear HO341; clear HB; have HO341 := n0_; have HO346 := n1_; have HB := n2_; clear n0_ n1_ n2_; (try clear hb); (try clear hb2); (try clear hk); (try clear hi); (try clear ho0)) | ((with_reducible refine gate_dst (N := 3) rfl ?_); (try (refine gate_guard (by rfl) ?_; dsimp only)); refine box_event ?hg (N := 3) ?hd (cs := #[.int .i64 0, .int .i64 0, .slice none 0 0, .bool false]) (t := 27) ?hr ?_; (case hd => rfl); (case hg => rfl); (case hr => first | (go_simp; done) | (go_simp; rfl)); intro gb349 hg w12 hbox hb; have n0_ := Aside0.mk (Kd.V_below (Kd.V_elderB (by (with_reducible repeat (first | apply Kd.V_alloc | apply Kd.V_drewN | apply Kd.V_drew)); exact HO341.out) gb349 (Nat.le_of_eq hg.symm)) hb); have n1_ := Aside0.mk (Kd.R_below (by (with_reducible repeat (first | apply Kd.R_alloc | apply Kd.R_drewN | apply Kd.R_drew)); exact HO346.out) hb); have n2_ := Aside0.mk (below_step (by with_reducible repeat first | exact HB.out | apply below_alloc | apply pw_below_drewN | apply below_drew1) hb); have n3_ := Aside0.mk (hbox); have n4_ := Aside0.mk ((by rw [hg]; exact (below_size (by with_reducible repeat first | exact HB.out | apply below_alloc | apply pw_below_drewN | apply below_drew1)) : w.heap.size ≤ gb349)); have n5_ := Aside0.mk ((by rw [hg]; exact (below_size (by with_reducible repeat first | exact HB.out | apply below_alloc | apply pw_below_drewN | apply below_drew1)) : w.heap.size ≤ gb349)); clear HO341; clear HO346; clear HB; have HO341 := n0_; have HO346 := n1_; have HB := n2_; have BK349 := n3_; have GW349 := n4_; have GE349 := n5_; clear n0_ n1_ n2_ n3_ n4_ n5_; clear hb hbox hg; obtain ⟨hcz13_0, hcz13_1, hcz13_2, hcz13_3⟩ := bc4 BK349.out; obtain ⟨hfz13_0, hfz13_1, hfz13_2, hfz13_3⟩ := bf4 BK349.out; obtain ⟨Ao14, co14, eo14⟩ := Kd.R_slice HO346.out; subst eo14) | ((with_reducible refine gate_callee (f := 15) rfl ?_); refine goesL_ (some 23) rfl rfl Try.func15 (by kernel_rfl) rfl #[.slice Ao10 t339.length co10] rfl (by (try simp only [List.map_toArray, List.map_cons, List.map_nil]); first | done | rfl | (simp only [List.length_drop, List.length_take]; rfl)) ?_; (with_reducible refine (levels_Calm.calls _ _ t339 t350 _ ?side1 ?side2 A6.out).mono ?_); (case side1 => refine (Kd.V_reads' (e := 38) (base := w.heap.size) (ok := fun k_ => ((True ∧ some k_ ≠ (.slice Ao14 t344.length co14 : Value).ownBlock) ∧ k_ ≠ gb349)) (n := t339.length) (c := co10) ?_).2.2; exact (by (with_reducible repeat (first | apply Kd.V_alloc | apply Kd.V_drewN | apply Kd.V_drew)); exact (Kd.V_mono (Kd.V_far (p := ⟨gb349, 3, none⟩) (Kd.V_far (p := ⟨gb349, 2, none⟩) (Kd.V_far (p := ⟨gb349, 1, none⟩) (Kd.V_far (p := ⟨gb349, 0, none⟩) (Kd.V_mono HO341.out (fun k_ hk => (⟨hk, hk.2⟩ : _ ∧ k_ ≠ gb349))) (fun _ hk => hk.2) (.int .i64 t342)) (fun _ hk => hk.2) (.int .i64 t343)) (fun _ hk => hk.2) (.slice Ao14 t344.length co14)) (fun _ hk => hk.2) (.bool t347)) (fun _ h_ => h_.1)))); (case side2 => exact (Kd.V_reads' HO341.out).2.1); rintro e w15 ⟨rfl, hb⟩; refine ⟨_, rfl, ?_⟩; have n0_ := Aside0.mk (Kd.V_below (by (with_reducible repeat (first | apply Kd.V_alloc | apply Kd.V_drewN | apply Kd.V_drew)); exact (Kd.V_mono (Kd.V_far (p := ⟨gb349, 3, none⟩) (Kd.V_far (p := ⟨gb349, 2, none⟩) (Kd.V_far (p := ⟨gb349, 1, none⟩) (Kd.V_far (p := ⟨gb349, 0, none⟩) (Kd.V_mono HO341.out (fun k_ hk => (⟨hk, hk.2⟩ : _ ∧ k_ ≠ gb349))) (fun _ hk => hk.2) (.int .i64 t342)) (fun _ hk => hk.2) (.int .i64 t343)) (fun _ hk => hk.2) (.slice Ao14 t344.length co14)) (fun _ hk => hk.2) (.bool t347)) (fun _ h_ => h_.1))) hb); have n1_ := Aside0.mk (Kd.R_below (by (with_reducible repeat (first | apply Kd.R_alloc | apply Kd.R_drewN | apply Kd.R_drew)); exact (Kd.R_mono (Kd.R_far (p := ⟨gb349, 3, none⟩) (Kd.R_far (p := ⟨gb349, 2, none⟩) (Kd.R_far (p := ⟨gb349, 1, none⟩) (Kd.R_far (p := ⟨gb349, 0, none⟩) (Kd.R_types HO346.out BK349.out (by decide)) (fun _ hk => hk.2) (.int .i64 t342)) (fun _ hk => hk.2) (.int .i64 t343)) (fun _ hk => hk.2) (.slice Ao14 t344.length co14)) (fun _ hk => hk.2) (.bool t347)) (fun _ h_ => h_.1))) hb); have n2_ := Aside0.mk (blk_below (g := gb349) (o := .cells #[.int .i64 t342, .int .i64 t343, .slice Ao14 t344.length co14, .bool t347] 27 (0, 0)) (by refine blk_put (cs := #[.int .i64 t342, .int .i64 t343, .slice Ao14 t344.length co14, .bool false]) ?_ 3 _ rfl; refine blk_put (cs := #[.int .i64 t342, .int .i64 t343, .slice none 0 0, .bool false]) ?_ 2 _ rfl; refine blk_put (cs := #[.int .i64 t342, .int .i64 0, .slice none 0 0, .bool false]) ?_ 1 _ rfl; refine blk_put (cs := #[.int .i64 0, .int .i64 0, .slice none 0 0, .bool false]) ?_ 0 _ rfl; (with_reducible repeat (first | refine blk_drewN ?_ _ | refine blk_drew ?_ | refine blk_alloc ?_ _)); exact BK349.out) hb); have n3_ := Aside0.mk (below_step (by with_reducible repeat first | exact HB.out | apply below_alloc | apply pw_below_drewN | apply below_drew1 | refine below_set ?_ GE349.out) hb); clear HO341; clear HO346; clear BK349; clear HB; have HO341 := n0_; have HO346 := n1_; have BK349 := n2_; have HB := n3_; clear n0_ n1_ n2_ n3_; (try clear hb); (try clear hb2); (try clear hk); (try clear hi)))
   go_ret
   exact ⟨by first | rfl | (simp [errW_none, errW_some] <;> rfl) | (simp [*, errW_none, errW_some] <;> rfl), by repeat (first | (with_reducible first | exact HB.out | apply below_alloc | apply pw_below_drewN | apply below_drew1 | refine below_set ?_ GE349.out) | exact HB.out)⟩
  ·rw [if_neg c7] at H
   have c7b0 : (t348 == t350) = false := by simpa using c7
   (try (have c7b1 : decide (t348 = t350) = false := by simpa using c7))
   (try (have c7b2 : (t348 == t350) = false := by simpa using c7))
   (try (have c7b3 : ¬ (t348 = t350) := by simpa using c7))
   clear c7
   have HC16 := Aside0.mk H
   clear H
   go_enter Try.func4, Try.ntmps4
   go_upto_region 7 with (first | ((with_reducible refine gate_callee (f := 8) rfl ?_); refine goesL_ (some 12) rfl rfl Try.func8 (by kernel_rfl) rfl #[] rfl (by (try simp only [List.map_toArray, List.map_cons, List.map_nil]); first | done | rfl | (simp only [List.length_drop, List.length_take]; rfl)) ?_; (with_reducible refine (tithebarnlaw17_lives_c.calls k  true _ A2.out).mono ?_); rintro e w17 ⟨rfl, hb⟩; refine ⟨_, rfl, ?_⟩; have n0_ := Aside0.mk (below_step (by with_reducible repeat first | exact HB.out | apply below_alloc | apply pw_below_drewN | apply below_drew1) hb); clear HB; have HB := n0_; clear n0_; (try clear hb); (try clear hb2); (try clear hk); (try clear hi)) | ((with_reducible refine gate_callee (f := 9) rfl ?_); refine goesL_ (some 15) rfl rfl Try.func9 (by kernel_rfl) rfl #[.slice A0 l0.length c0] rfl (by (try simp only [List.map_toArray, List.map_cons, List.map_nil]); first | done | rfl | (simp only [List.length_drop, List.length_take]; rfl)) ?_; (with_reducible refine (tithebarnlaw17_early.calls (fun k_ => k_ < w.heap.size) _ _ l0 t339 _ ?side1 A4.out).mono ?_); (case side1 => exact Kd.V_mk HC0.out (Kd.F_below (Kd.C_F k38_heap HR0.out) (by with_reducible repeat first | exact HB.out | apply below_alloc | apply pw_below_drewN | apply below_drew1))); rintro e w18 ⟨v340, rfl, ho0, hb⟩; refine ⟨_, rfl, ?_⟩; have n0_ := Aside0.mk (Kd.V_lower (Kd.V_mono (ok' := fun k_ => True) ho0 (fun k_ hk_ => trivial)) (below_size (by with_reducible repeat first | exact HB.out | apply below_alloc | apply pw_below_drewN | apply below_drew1))); have n1_ := Aside0.mk (below_step (by with_reducible repeat first | exact HB.out | apply below_alloc | apply pw_below_drewN | apply below_drew1) hb); clear HB; have HO341 := n0_; have HB := n1_; clear n0_ n1_; (try clear hb); (try clear hb2); (try clear hk); (try clear hi); (try clear ho0); obtain ⟨Ao19, co19, eo19⟩ := Kd.V_slice HO341.out; subst eo19) | ((with_reducible refine gate_callee (f := 10) rfl ?_); refine goesL_ (some 18) rfl rfl Try.func10 (by kernel_rfl) rfl #[.slice Ao19 t339.length co19] rfl (by (try simp only [List.map_toArray, List.map_cons, List.map_nil]); first | done | rfl | (simp only [List.length_drop, List.length_take]; rfl)) ?_; (with_reducible refine (levels_Pick.calls _ _ t339 t342 t343 t344 t347 t348 _ ?side1 ?side2 A5.out).mono ?_); (case side1 => repeat (first | exact (Kd.V_reads' HO341.out).2.2 | (with_reducible refine Kd.C_alloc ?_ _) | (with_reducible refine Kd.C_drewN ?_ _) | (with_reducible refine Kd.C_drew ?_))); (case side2 => exact (Kd.V_reads' HO341.out).2.1); rintro e w20 ⟨v345, rfl, ho0, hb⟩; refine ⟨_, rfl, ?_⟩; have n0_ := Aside0.mk (Kd.V_elder' (by (with_reducible repeat (first | apply Kd.V_alloc | apply Kd.V_drewN | apply Kd.V_drew)); exact HO341.out) (Kd.R_base ho0) hb); have n1_ := Aside0.mk (Kd.R_lower ho0 (below_size (by with_reducible repeat first | exact HB.out | apply below_alloc | apply pw_below_drewN | apply below_drew1))); have n2_ := Aside0.mk (below_step (by with_reducible repeat first | exact HB.out | apply below_alloc | apply pw_below_drewN | apply below_drew1) hb); clear HO341; clear HB; have HO341 := n0_; have HO346 := n1_; have HB := n2_; clear n0_ n1_ n2_; (try clear hb); (try clear hb2); (try clear hk); (try clear hi); (try clear ho0)) | ((with_reducible refine gate_dst (N := 3) rfl ?_); (try (refine gate_guard (by rfl) ?_; dsimp only)); refine box_event ?hg (N := 3) ?hd (cs := #[.int .i64 0, .int .i64 0, .slice none 0 0, .bool false]) (t := 27) ?hr ?_; (case hd => rfl); (case hg => rfl); (case hr => first | (go_simp; done) | (go_simp; rfl)); intro gb349 hg w21 hbox hb; have n0_ := Aside0.mk (Kd.V_below (Kd.V_elderB (by (with_reducible repeat (first | apply Kd.V_alloc | apply Kd.V_drewN | apply Kd.V_drew)); exact HO341.out) gb349 (Nat.le_of_eq hg.symm)) hb); have n1_ := Aside0.mk (Kd.R_below (by (with_reducible repeat (first | apply Kd.R_alloc | apply Kd.R_drewN | apply Kd.R_drew)); exact HO346.out) hb); have n2_ := Aside0.mk (below_step (by with_reducible repeat first | exact HB.out | apply below_alloc | apply pw_below_drewN | apply below_drew1) hb); have n3_ := Aside0.mk (hbox); have n4_ := Aside0.mk ((by rw [hg]; exact (below_size (by with_reducible repeat first | exact HB.out | apply below_alloc | apply pw_below_drewN | apply below_drew1)) : w.heap.size ≤ gb349)); have n5_ := Aside0.mk ((by rw [hg]; exact (below_size (by with_reducible repeat first | exact HB.out | apply below_alloc | apply pw_below_drewN | apply below_drew1)) : w.heap.size ≤ gb349)); clear HO341; clear HO346; clear HB; have HO341 := n0_; have HO346 := n1_; have HB := n2_; have BK349 := n3_; have GW349 := n4_; have GE349 := n5_; clear n0_ n1_ n2_ n3_ n4_ n5_; clear hb hbox hg; obtain ⟨hcz22_0, hcz22_1, hcz22_2, hcz22_3⟩ := bc4 BK349.out; obtain ⟨hfz22_0, hfz22_1, hfz22_2, hfz22_3⟩ := bf4 BK349.out; obtain ⟨Ao23, co23, eo23⟩ := Kd.R_slice HO346.out; subst eo23) | ((with_reducible refine gate_callee (f := 15) rfl ?_); refine goesL_ (some 23) rfl rfl Try.func15 (by kernel_rfl) rfl #[.slice Ao19 t339.length co19] rfl (by (try simp only [List.map_toArray, List.map_cons, List.map_nil]); first | done | rfl | (simp only [List.length_drop, List.length_take]; rfl)) ?_; (with_reducible refine (levels_Calm.calls _ _ t339 t350 _ ?side1 ?side2 A6.out).mono ?_); (case side1 => refine (Kd.V_reads' (e := 38) (base := w.heap.size) (ok := fun k_ => ((True ∧ some k_ ≠ (.slice Ao23 t344.length co23 : Value).ownBlock) ∧ k_ ≠ gb349)) (n := t339.length) (c := co19) ?_).2.2; exact (by (with_reducible repeat (first | apply Kd.V_alloc | apply Kd.V_drewN | apply Kd.V_drew)); exact (Kd.V_mono (Kd.V_far (p := ⟨gb349, 3, none⟩) (Kd.V_far (p := ⟨gb349, 2, none⟩) (Kd.V_far (p := ⟨gb349, 1, none⟩) (Kd.V_far (p := ⟨gb349, 0, none⟩) (Kd.V_mono HO341.out (fun k_ hk => (⟨hk, hk.2⟩ : _ ∧ k_ ≠ gb349))) (fun _ hk => hk.2) (.int .i64 t342)) (fun _ hk => hk.2) (.int .i64 t343)) (fun _ hk => hk.2) (.slice Ao23 t344.length co23)) (fun _ hk => hk.2) (.bool t347)) (fun _ h_ => h_.1)))); (case side2 => exact (Kd.V_reads' HO341.out).2.1); rintro e w24 ⟨rfl, hb⟩; refine ⟨_, rfl, ?_⟩; have n0_ := Aside0.mk (Kd.V_below (by (with_reducible repeat (first | apply Kd.V_alloc | apply Kd.V_drewN | apply Kd.V_drew)); exact (Kd.V_mono (Kd.V_far (p := ⟨gb349, 3, none⟩) (Kd.V_far (p := ⟨gb349, 2, none⟩) (Kd.V_far (p := ⟨gb349, 1, none⟩) (Kd.V_far (p := ⟨gb349, 0, none⟩) (Kd.V_mono HO341.out (fun k_ hk => (⟨hk, hk.2⟩ : _ ∧ k_ ≠ gb349))) (fun _ hk => hk.2) (.int .i64 t342)) (fun _ hk => hk.2) (.int .i64 t343)) (fun _ hk => hk.2) (.slice Ao23 t344.length co23)) (fun _ hk => hk.2) (.bool t347)) (fun _ h_ => h_.1))) hb); have n1_ := Aside0.mk (Kd.R_below (by (with_reducible repeat (first | apply Kd.R_alloc | apply Kd.R_drewN | apply Kd.R_drew)); exact (Kd.R_mono (Kd.R_far (p := ⟨gb349, 3, none⟩) (Kd.R_far (p := ⟨gb349, 2, none⟩) (Kd.R_far (p := ⟨gb349, 1, none⟩) (Kd.R_far (p := ⟨gb349, 0, none⟩) (Kd.R_types HO346.out BK349.out (by decide)) (fun _ hk => hk.2) (.int .i64 t342)) (fun _ hk => hk.2) (.int .i64 t343)) (fun _ hk => hk.2) (.slice Ao23 t344.length co23)) (fun _ hk => hk.2) (.bool t347)) (fun _ h_ => h_.1))) hb); have n2_ := Aside0.mk (blk_below (g := gb349) (o := .cells #[.int .i64 t342, .int .i64 t343, .slice Ao23 t344.length co23, .bool t347] 27 (0, 0)) (by refine blk_put (cs := #[.int .i64 t342, .int .i64 t343, .slice Ao23 t344.length co23, .bool false]) ?_ 3 _ rfl; refine blk_put (cs := #[.int .i64 t342, .int .i64 t343, .slice none 0 0, .bool false]) ?_ 2 _ rfl; refine blk_put (cs := #[.int .i64 t342, .int .i64 0, .slice none 0 0, .bool false]) ?_ 1 _ rfl; refine blk_put (cs := #[.int .i64 0, .int .i64 0, .slice none 0 0, .bool false]) ?_ 0 _ rfl; (with_reducible repeat (first | refine blk_drewN ?_ _ | refine blk_drew ?_ | refine blk_alloc ?_ _)); exact BK349.out) hb); have n3_ := Aside0.mk (below_step (by with_reducible repeat first | exact HB.out | apply below_alloc | apply pw_below_drewN | apply below_drew1 | refine below_set ?_ GE349.out) hb); clear HO341; clear HO346; clear BK349; clear HB; have HO341 := n0_; have HO346 := n1_; have BK349 := n2_; have HB := n3_; clear n0_ n1_ n2_ n3_; (try clear hb); (try clear hb2); (try clear hk); (try clear hi)))
   (try simp only [Act.put, List.setIfInBounds_toArray, List.set_cons_zero, List.set_cons_succ])
   go_cut [31] (fun v31 wc => ∃ (kq : Nat) (x31_15 : Bool), v31 = .bool x31_15 ∧ Aside0 (tithebarnlaw17_LevelsNames.j0 kq t339 x31_15 t342 t343 t344 t347 = some r) ∧ Aside0 (kq ≤ k) ∧ Aside0 (Kd.V k38 38 wc w.heap.size (fun k_ => some k_ ≠ ((.slice Ao23 t344.length co23) : Value).ownBlock ∧ k_ ≠ gb349) (.slice Ao19 t339.length co19) t339) ∧ Aside0 (Kd.R (Kd.int .i64) 3 wc w.heap.size (fun _ => True) (.slice Ao23 t344.length co23) t344) ∧ Aside0 (wc.heap[gb349]? = some (.cells #[.int .i64 t342, .int .i64 t343, (.slice Ao23 t344.length co23), .bool t347] 27 (0, 0))) ∧ Aside0 (Below w.heap.size w wc))
   case first =>
    have H := HC16.out
    clear HC16
    by_cases c25 : t348 = true
    ·subst c25
     have H1 : ((tithebarnlaw17_unlike.f k t339).bind fun t351 => (tithebarnlaw17_LevelsNames.j0 k t339 (!t351) t342 t343 t344 t347)) = some r := by rw [if_pos rfl] at H; exact H
     clear H
     have H := H1
     clear H1
     replace H := Option.bind_eq_some_iff.mp H
     obtain ⟨t351, A260, H⟩ := H
     replace H : (tithebarnlaw17_LevelsNames.j0 k t339 (!t351) t342 t343 t344 t347) = some r := H
     have A26 := Aside0.mk A260
     clear A260
     have H' := Aside0.mk H
     clear H
     go_wp2_with (first | (go_at_call 17; (with_reducible refine (tithebarnlaw17_unlike.calls k _ _ t339 t351 _ ?side1 ?side2 A26.out).mono ?_); (case side1 => repeat (first | exact (Kd.V_reads' HO341.out).2.2 | (with_reducible refine Kd.C_alloc ?_ _) | (with_reducible refine Kd.C_drewN ?_ _) | (with_reducible refine Kd.C_drew ?_))); (case side2 => exact (Kd.V_reads' HO341.out).2.1); rintro e w' ⟨rfl, ⟨nd, rfl⟩⟩))
     go_meet
     case rel => exact ⟨_, (!t351), (by first | rfl | (simp; done) | (simp [*]; done)), H', ⟨by first | omega | exact Nat.le_refl _⟩, ⟨by (with_reducible repeat (first | apply Kd.V_alloc | apply Kd.V_drewN | apply Kd.V_drew)); exact Kd.V_mono HO341.out (fun _ hk => ⟨hk.1.2, hk.2⟩)⟩, ⟨by (with_reducible repeat (first | apply Kd.R_alloc | apply Kd.R_drewN | apply Kd.R_drew)); exact HO346.out⟩, ⟨by (with_reducible repeat (first | refine blk_drewN ?_ _ | refine blk_drew ?_ | refine blk_alloc ?_ _)); exact BK349.out⟩, ⟨by repeat (first | (with_reducible first | exact HB.out | apply below_alloc | apply pw_below_drewN | apply below_drew1 | refine below_set ?_ GE349.out) | exact HB.out)⟩⟩
    ·replace c25 := Bool.eq_false_iff.mpr c25
     subst c25
     have H1 : (tithebarnlaw17_LevelsNames.j0 k t339 true t342 t343 t344 t347) = some r := by rw [if_neg (show ¬ (false = true) by decide)] at H; exact H
     clear H
     have H := H1
     clear H1
     have H' := Aside0.mk H
     clear H
     go_wp2
     go_meet
     case rel => exact ⟨_, (true), (by first | rfl | (simp; done) | (simp [*]; done)), H', ⟨by first | omega | exact Nat.le_refl _⟩, ⟨by (with_reducible repeat (first | apply Kd.V_alloc | apply Kd.V_drewN | apply Kd.V_drew)); exact Kd.V_mono HO341.out (fun _ hk => ⟨hk.1.2, hk.2⟩)⟩, ⟨by (with_reducible repeat (first | apply Kd.R_alloc | apply Kd.R_drewN | apply Kd.R_drew)); exact HO346.out⟩, ⟨by (with_reducible repeat (first | refine blk_drewN ?_ _ | refine blk_drew ?_ | refine blk_alloc ?_ _)); exact BK349.out⟩, ⟨by repeat (first | (with_reducible first | exact HB.out | apply below_alloc | apply pw_below_drewN | apply below_drew1 | refine below_set ?_ GE349.out) | exact HB.out)⟩⟩
   case rest =>
    clear HC16
    try clear c1
    try clear c2
    try clear p2
    try clear c3
    try clear c4
    try clear c7
    try clear c7b0
    try clear c7b1
    try clear c7b2
    try clear c8
    try clear c9
    try clear c10
    try clear c15
    try clear c25
    try clear hcz13_0 hcz13_1 hcz13_2 hcz13_3
    try clear hcz22_0 hcz22_1 hcz22_2 hcz22_3
    try clear hfz13_0 hfz13_1 hfz13_2 hfz13_3
    try clear hfz22_0 hfz22_1 hfz22_2 hfz22_3
    obtain ⟨kq, x31_15, rfl, HA, HJ15, HO_0, HO_350002, BK349, HB⟩ := hcut
    cases kq with
    | zero => exact absurd HA.out (by simp [tithebarnlaw17_LevelsNames.j0])
    | succ kj15 =>
     have H := HA.out
     clear HA
     simp only [tithebarnlaw17_LevelsNames.j0] at H
     by_cases c27 : x31_15 = true
     ·subst c27
      have H1 : (some true) = some r := by rw [if_pos rfl] at H; exact H
      clear H
      have H := H1
      clear H1
      obtain rfl := Option.some.inj H
      go_wp2
      go_ret
      exact ⟨by first | rfl | (simp [errW_none, errW_some] <;> rfl) | (simp [*, errW_none, errW_some] <;> rfl), by repeat (first | (with_reducible first | exact HB.out | apply below_alloc | apply pw_below_drewN | apply below_drew1 | refine below_set ?_ GE349.out) | exact HB.out)⟩
     ·replace c27 := Bool.eq_false_iff.mpr c27
      subst c27
      have H1 : (tithebarnlaw17_LevelsNames.l0 kj15 t339 ([] : List (S38)) ([] : List Int) 0 t342 t343 t344 t347) = some r := by rw [if_neg (show ¬ (false = true) by decide)] at H; exact H
      clear H
      have H := H1
      clear H1
      have H' := Aside0.mk H
      clear H
      go_wp2
      go_loopg [5, 6, 7] kj15 (fun kq v5 v6 v7 w' => ∃ (x5_2 : List (S38)) (x6_2 : List Int) (x7_2 : Int), v7 = .int .i64 x7_2 ∧ Aside0 (tithebarnlaw17_LevelsNames.l0 kq t339 x5_2 x6_2 x7_2 t342 t343 t344 t347 = some r) ∧ Aside0 (kq ≤ kj15) ∧ Aside0 (Kd.V k38 38 w' w.heap.size (fun k_ => some k_ ≠ (v5 : Value).ownBlock ∧ some k_ ≠ (v6 : Value).ownBlock ∧ some k_ ≠ ((.slice Ao23 t344.length co23) : Value).ownBlock ∧ k_ ≠ gb349) (.slice Ao19 t339.length co19) t339) ∧ Aside0 (Kd.R k38 38 w' w.heap.size (fun _ => True) v5 x5_2) ∧ Aside0 (Kd.R (Kd.int .i64) 3 w' w.heap.size (fun k_ => some k_ ≠ ((.slice Ao23 t344.length co23) : Value).ownBlock) v6 x6_2) ∧ Aside0 (Kd.R (Kd.int .i64) 3 w' w.heap.size (fun k_ => some k_ ≠ (v6 : Value).ownBlock) (.slice Ao23 t344.length co23) t344) ∧ Aside0 (w'.heap[gb349]? = some (.cells #[.int .i64 t342, .int .i64 t343, (.slice Ao23 t344.length co23), .bool t347] 27 (0, 0))) ∧ Aside0 (Below w.heap.size w w'))
      case atStart => exact ⟨(([] : List (S38))), (([] : List Int)), (0), (by first | rfl | (simp; done) | (simp [*]; done)), H', ⟨Nat.le_refl _⟩, ⟨by (with_reducible repeat (first | apply Kd.V_alloc | apply Kd.V_drewN | apply Kd.V_drew)); exact Kd.V_mono HO_0.out (fun _ hk => ⟨(by simp [Value.ownBlock]), ⟨(by simp [Value.ownBlock]), ⟨hk.1, hk.2⟩⟩⟩)⟩, ⟨by first | exact Kd.R_nil _ _ _ _ _ | exact Kd.N_nil _ _ _ _ _ | exact Kd.V_nil _ _ _ _ _ | exact Kd.Q_nil _ _ _ _ _ | exact Kd.S_nil _ _ _ _ _⟩, ⟨by first | exact Kd.R_nil _ _ _ _ _ | exact Kd.N_nil _ _ _ _ _ | exact Kd.V_nil _ _ _ _ _ | exact Kd.Q_nil _ _ _ _ _ | exact Kd.S_nil _ _ _ _ _⟩, ⟨by (with_reducible repeat (first | apply Kd.R_alloc | apply Kd.R_drewN | apply Kd.R_drew)); exact Kd.R_mono HO_350002.out (fun _ hk => (by simp [Value.ownBlock]))⟩, ⟨by (with_reducible repeat (first | refine blk_drewN ?_ _ | refine blk_drew ?_ | refine blk_alloc ?_ _)); exact BK349.out⟩, ⟨by repeat (first | (with_reducible first | exact HB.out | apply below_alloc | apply pw_below_drewN | apply below_drew1 | refine below_set ?_ GE349.out) | exact HB.out)⟩⟩
      case round =>
       clear H'
       try clear c1
       try clear c2
       try clear p2
       try clear c3
       try clear c4
       try clear c7
       try clear c7b0
       try clear c7b1
       try clear c7b2
       try clear c8
       try clear c9
       try clear c10
       try clear c15
       try clear c25
       try clear c27
       try clear hcz13_0 hcz13_1 hcz13_2 hcz13_3
       try clear hcz22_0 hcz22_1 hcz22_2 hcz22_3
       try clear hfz13_0 hfz13_1 hfz13_2 hfz13_3
       try clear hfz22_0 hfz22_1 hfz22_2 hfz22_3
       try clear p2
       obtain ⟨x5_2, x6_2, x7_2, rfl, HA, HK2, HO_0, HO_5, HO_6, HO_350002, BK349, HB⟩ := hrel
       cases gk with
       | zero => exact absurd HA.out (by simp [tithebarnlaw17_LevelsNames.l0])
       | succ k2 =>
        have H := HA.out
        clear HA
        simp only [tithebarnlaw17_LevelsNames.l0] at H
        by_cases c28 : x7_2 < (t344.length : Int)
        ·rw [if_pos c28] at H
         have c28b0 : decide (x7_2 < (t344.length : Int)) = true := decide_eq_true c28
         clear c28
         by_cases c29 : 0 ≤ x7_2
         ·rw [if_pos c29] at H
          have c29b0 : decide (0 ≤ x7_2) = true := decide_eq_true c29
          clear c29
          replace H := Option.bind_eq_some_iff.mp H
          obtain ⟨⟨t353, t354, t355, t356, t357, t358, t359, t360, t361⟩, A300, H⟩ := H
          replace H : (if t361 = true then (if t354 = t342 then ((tithebarnlaw17_has.f k2 x6_2 t353).bind fun t363 => (tithebarnlaw17_LevelsNames.j2 k2 t339 x5_2 x6_2 x7_2 t363 t342 t343 t344 t347 t353 t354 t355 t356 t357 t358 t359 t360)) else (if t354 = t343 then ((tithebarnlaw17_has.f k2 x6_2 t353).bind fun t364 => (tithebarnlaw17_LevelsNames.j2 k2 t339 x5_2 x6_2 x7_2 t364 t342 t343 t344 t347 t353 t354 t355 t356 t357 t358 t359 t360)) else (tithebarnlaw17_LevelsNames.j2 k2 t339 x5_2 x6_2 x7_2 true t342 t343 t344 t347 t353 t354 t355 t356 t357 t358 t359 t360))) else (tithebarnlaw17_LevelsNames.j2 k2 t339 x5_2 x6_2 x7_2 true t342 t343 t344 t347 t353 t354 t355 t356 t357 t358 t359 t360)) = some r := H
          have A30 := Aside0.mk A300
          clear A300
          have HC31 := Aside0.mk H
          clear H
          obtain ⟨hcz32_0, hcz32_1, hcz32_2, hcz32_3⟩ := bc4 BK349.out
          obtain ⟨hfz32_0, hfz32_1, hfz32_2, hfz32_3⟩ := bf4 BK349.out
          have p352 : 0 ≤ (x7_2 : Int) := of_decide_eq_true (by with_reducible assumption)
          have q352 : x7_2 < (t344.length : Int) := of_decide_eq_true (by with_reducible assumption)
          obtain ⟨ad352, e352, hx352_0⟩ := Kd.at_int (Kd.R_reads' HO_350002.out).2.2 x7_2 p352 q352
          cases e352
          replace p352 := eq_true p352
          replace q352 := eq_true q352
          go_upto_region 15 with (first | ((with_reducible refine gate_callee (f := 18) rfl ?_); refine goesL_ (some 46) rfl rfl Try.func18 (by kernel_rfl) rfl #[.slice Ao19 t339.length co19, .int .i64 (rd t344 x7_2)] rfl (by (try simp only [List.map_toArray, List.map_cons, List.map_nil]); first | done | rfl | (simp only [List.length_drop, List.length_take]; rfl)) ?_; (with_reducible refine (tithebarnlaw17_at.calls k2 _ _ t339 (rd t344 x7_2) t353 t354 t355 t356 t357 t358 t359 t360 t361 _ ?side1 ?side2 A30.out).mono ?_); (case side1 => repeat (first | exact (Kd.V_reads' HO_0.out).2.2 | (with_reducible refine Kd.C_alloc ?_ _) | (with_reducible refine Kd.C_drewN ?_ _) | (with_reducible refine Kd.C_drew ?_))); (case side2 => exact (Kd.V_reads' HO_0.out).2.1); rintro e w33 ⟨rfl, hb⟩; refine ⟨_, rfl, ?_⟩; have n0_ := Aside0.mk (Kd.V_below (by (with_reducible repeat (first | apply Kd.V_alloc | apply Kd.V_drewN | apply Kd.V_drew)); exact HO_0.out) hb); have n1_ := Aside0.mk (Kd.R_below (by (with_reducible repeat (first | apply Kd.R_alloc | apply Kd.R_drewN | apply Kd.R_drew)); exact HO_5.out) hb); have n2_ := Aside0.mk (Kd.R_below (by (with_reducible repeat (first | apply Kd.R_alloc | apply Kd.R_drewN | apply Kd.R_drew)); exact HO_6.out) hb); have n3_ := Aside0.mk (Kd.R_below (by (with_reducible repeat (first | apply Kd.R_alloc | apply Kd.R_drewN | apply Kd.R_drew)); exact HO_350002.out) hb); have n4_ := Aside0.mk (blk_below (g := gb349) (o := .cells #[.int .i64 t342, .int .i64 t343, .slice (some ad352) t344.length co23, .bool t347] 27 (0, 0)) (by (with_reducible repeat (first | refine blk_drewN ?_ _ | refine blk_drew ?_ | refine blk_alloc ?_ _)); exact BK349.out) hb); have n5_ := Aside0.mk (below_step (by with_reducible repeat first | exact HB.out | apply below_alloc | apply pw_below_drewN | apply below_drew1 | refine below_set ?_ GE349.out) hb); clear HO_0; clear HO_5; clear HO_6; clear HO_350002; clear BK349; clear HB; have HO_0 := n0_; have HO_5 := n1_; have HO_6 := n2_; have HO_350002 := n3_; have BK349 := n4_; have HB := n5_; clear n0_ n1_ n2_ n3_ n4_ n5_; (try clear hb); (try clear hb2); (try clear hk); (try clear hi)) | ((with_reducible refine gate_dst (N := 8) rfl ?_); (try (refine gate_guard (by rfl) ?_; dsimp only)); refine box_event ?hg (N := 8) ?hd (cs := #[.int .i64 0, .int .i64 0, .bool false, .int .i64 0, .string (⟨#[]⟩ : ByteArray), .bool false, .int .i64 0, .string (⟨#[]⟩ : ByteArray)]) (t := 38) ?hr ?_; (case hd => rfl); (case hg => rfl); (case hr => first | (go_simp; done) | (go_simp; rfl)); intro gb362 hg w34 hbox hb; have n0_ := Aside0.mk (Kd.V_below (Kd.V_elderB (by (with_reducible repeat (first | apply Kd.V_alloc | apply Kd.V_drewN | apply Kd.V_drew)); exact HO_0.out) gb362 (Nat.le_of_eq hg.symm)) hb); have n1_ := Aside0.mk (Kd.R_below (Kd.R_elderB (by (with_reducible repeat (first | apply Kd.R_alloc | apply Kd.R_drewN | apply Kd.R_drew)); exact HO_5.out) gb362 (Nat.le_of_eq hg.symm)) hb); have n2_ := Aside0.mk (Kd.R_below (by (with_reducible repeat (first | apply Kd.R_alloc | apply Kd.R_drewN | apply Kd.R_drew)); exact HO_6.out) hb); have n3_ := Aside0.mk (Kd.R_below (by (with_reducible repeat (first | apply Kd.R_alloc | apply Kd.R_drewN | apply Kd.R_drew)); exact HO_350002.out) hb); have n4_ := Aside0.mk (blk_below (g := gb349) (o := .cells #[.int .i64 t342, .int .i64 t343, .slice (some ad352) t344.length co23, .bool t347] 27 (0, 0)) (by (with_reducible repeat (first | refine blk_drewN ?_ _ | refine blk_drew ?_ | refine blk_alloc ?_ _)); exact BK349.out) hb); have n5_ := Aside0.mk (below_step (by with_reducible repeat first | exact HB.out | apply below_alloc | apply pw_below_drewN | apply below_drew1 | refine below_set ?_ GE349.out) hb); have n6_ := Aside0.mk (hbox); have n7_ := Aside0.mk ((by rw [hg]; exact (below_size (by with_reducible repeat first | exact HB.out | apply below_alloc | apply pw_below_drewN | apply below_drew1 | refine below_set ?_ GE349.out)) : w.heap.size ≤ gb362)); have n8_ := Aside0.mk ((by rw [hg]; exact (below_size (by with_reducible repeat first | exact HB.out | apply below_alloc | apply pw_below_drewN | apply below_drew1 | refine below_set ?_ GE349.out)) : w.heap.size ≤ gb362)); have n9_ := Aside0.mk ((by rw [hg]; exact Nat.ne_of_lt (blk_lt (g := gb349) (o := .cells #[.int .i64 t342, .int .i64 t343, .slice (some ad352) t344.length co23, .bool t347] 27 (0, 0)) (by (with_reducible repeat (first | refine blk_drewN ?_ _ | refine blk_drew ?_ | refine blk_alloc ?_ _)); exact BK349.out)) : gb349 ≠ gb362)); have n10_ := Aside0.mk ((by rw [hg]; exact Nat.ne_of_gt (blk_lt (g := gb349) (o := .cells #[.int .i64 t342, .int .i64 t343, .slice (some ad352) t344.length co23, .bool t347] 27 (0, 0)) (by (with_reducible repeat (first | refine blk_drewN ?_ _ | refine blk_drew ?_ | refine blk_alloc ?_ _)); exact BK349.out)) : gb362 ≠ gb349)); clear HO_0; clear HO_5; clear HO_6; clear HO_350002; clear BK349; clear HB; have HO_0 := n0_; have HO_5 := n1_; have HO_6 := n2_; have HO_350002 := n3_; have BK349 := n4_; have HB := n5_; have BK362 := n6_; have GW362 := n7_; have GE362 := n8_; have NB349_362 := n9_; have NB362_349 := n10_; clear n0_ n1_ n2_ n3_ n4_ n5_ n6_ n7_ n8_ n9_ n10_; clear hb hbox hg; have hnb35 := NB362_349.out; have hnc35 := NB349_362.out; obtain ⟨hcz36_0, hcz36_1, hcz36_2, hcz36_3, hcz36_4, hcz36_5, hcz36_6, hcz36_7⟩ := bc8 BK362.out; obtain ⟨hfz36_0, hfz36_1, hfz36_2, hfz36_3, hfz36_4, hfz36_5, hfz36_6, hfz36_7⟩ := bf8 BK362.out))
          (try simp only [Act.put, List.setIfInBounds_toArray, List.set_cons_zero, List.set_cons_succ])
          go_cut [70] (fun v70 wc => ∃ (kq : Nat) (x70_30 : Bool), v70 = .bool x70_30 ∧ Aside0 (tithebarnlaw17_LevelsNames.j2 kq t339 x5_2 x6_2 x7_2 x70_30 t342 t343 t344 t347 t353 t354 t355 t356 t357 t358 t359 t360 = some r) ∧ Aside0 (kq ≤ k2) ∧ Aside0 (Kd.V k38 38 wc w.heap.size (fun k_ => some k_ ≠ (u5 : Value).ownBlock ∧ some k_ ≠ (u6 : Value).ownBlock ∧ some k_ ≠ ((.slice (some ad352) t344.length co23) : Value).ownBlock ∧ k_ ≠ gb349 ∧ k_ ≠ gb362) (.slice Ao19 t339.length co19) t339) ∧ Aside0 (Kd.R k38 38 wc w.heap.size (fun k_ => k_ ≠ gb362) u5 x5_2) ∧ Aside0 (Kd.R (Kd.int .i64) 3 wc w.heap.size (fun k_ => some k_ ≠ ((.slice (some ad352) t344.length co23) : Value).ownBlock) u6 x6_2) ∧ Aside0 (Kd.R (Kd.int .i64) 3 wc w.heap.size (fun k_ => some k_ ≠ (u6 : Value).ownBlock) (.slice (some ad352) t344.length co23) t344) ∧ Aside0 (wc.heap[gb349]? = some (.cells #[.int .i64 t342, .int .i64 t343, (.slice (some ad352) t344.length co23), .bool t347] 27 (0, 0))) ∧ Aside0 (wc.heap[gb362]? = some (.cells #[.int .i64 t353, .int .i64 t354, .bool t355, .int .i64 t356, .string t357, .bool t358, .int .i64 t359, .string t360] 38 (0, 0))) ∧ Aside0 (Below w.heap.size w wc))
          case first =>
           have H := HC31.out
           clear HC31
           by_cases c37 : t361 = true
           ·subst c37
            have H1 : (if t354 = t342 then ((tithebarnlaw17_has.f k2 x6_2 t353).bind fun t363 => (tithebarnlaw17_LevelsNames.j2 k2 t339 x5_2 x6_2 x7_2 t363 t342 t343 t344 t347 t353 t354 t355 t356 t357 t358 t359 t360)) else (if t354 = t343 then ((tithebarnlaw17_has.f k2 x6_2 t353).bind fun t364 => (tithebarnlaw17_LevelsNames.j2 k2 t339 x5_2 x6_2 x7_2 t364 t342 t343 t344 t347 t353 t354 t355 t356 t357 t358 t359 t360)) else (tithebarnlaw17_LevelsNames.j2 k2 t339 x5_2 x6_2 x7_2 true t342 t343 t344 t347 t353 t354 t355 t356 t357 t358 t359 t360))) = some r := by rw [if_pos rfl] at H; exact H
            clear H
            have H := H1
            clear H1
            by_cases c38 : t354 = t342
            ·rw [if_pos c38] at H
             have c38b0 : (t354 == t342) = true := beq_iff_eq.mpr c38
             have c38b1 : (t354 != t342) = false := bne_eq_false_iff_eq.mpr c38
             clear c38
             (first | rw [c38b0] | (simp only [i64_w, i32_w]; rw [c38b0]) | skip)
             replace H := Option.bind_eq_some_iff.mp H
             obtain ⟨t363, A390, H⟩ := H
             replace H : (tithebarnlaw17_LevelsNames.j2 k2 t339 x5_2 x6_2 x7_2 t363 t342 t343 t344 t347 t353 t354 t355 t356 t357 t358 t359 t360) = some r := H
             have A39 := Aside0.mk A390
             clear A390
             have H' := Aside0.mk H
             clear H
             have hnb40 := NB362_349.out
             have hnc40 := NB349_362.out
             obtain ⟨hcz41_0, hcz41_1, hcz41_2, hcz41_3, hcz41_4, hcz41_5, hcz41_6, hcz41_7⟩ := bc8 BK362.out
             obtain ⟨hfz41_0, hfz41_1, hfz41_2, hfz41_3, hfz41_4, hfz41_5, hfz41_6, hfz41_7⟩ := bf8 BK362.out
             obtain ⟨hcz42_0, hcz42_1, hcz42_2, hcz42_3⟩ := bc4 BK349.out
             obtain ⟨hfz42_0, hfz42_1, hfz42_2, hfz42_3⟩ := bf4 BK349.out
             obtain ⟨Ao43, co43, eo43⟩ := Kd.R_slice HO_6.out
             subst eo43
             go_wp2_with (first | (go_at_call 19; (with_reducible refine (tithebarnlaw17_has.calls k2 _ _ x6_2 t353 t363 _ ?side1 ?side2 A39.out).mono ?_); (case side1 => refine (Kd.R_reads' (e := 3) (base := w.heap.size) (ok := fun k_ => some k_ ≠ (.slice (some ad352) t344.length co23 : Value).ownBlock) (n := x6_2.length) (c := co43) ?_).2.2; exact (by (with_reducible repeat (first | apply Kd.R_alloc | apply Kd.R_drewN | apply Kd.R_drew)); exact (Kd.R_mono (Kd.R_far (p := ⟨gb362, 7, none⟩) (Kd.R_far (p := ⟨gb362, 6, none⟩) (Kd.R_far (p := ⟨gb362, 5, none⟩) (Kd.R_far (p := ⟨gb362, 4, none⟩) (Kd.R_far (p := ⟨gb362, 3, none⟩) (Kd.R_far (p := ⟨gb362, 2, none⟩) (Kd.R_far (p := ⟨gb362, 1, none⟩) (Kd.R_far (p := ⟨gb362, 0, none⟩) (Kd.R_types HO_6.out BK362.out (by decide)) (fun _ hk => hk.2) (.int .i64 t353)) (fun _ hk => hk.2) (.int .i64 t354)) (fun _ hk => hk.2) (.bool t355)) (fun _ hk => hk.2) (.int .i64 t356)) (fun _ hk => hk.2) (.string t357)) (fun _ hk => hk.2) (.bool t358)) (fun _ hk => hk.2) (.int .i64 t359)) (fun _ hk => hk.2) (.string t360)) (fun _ h_ => h_.1)))); (case side2 => exact (Kd.R_reads' HO_6.out).2.1); rintro e w' ⟨rfl, ⟨nd, rfl⟩⟩))
             go_meet
             case rel => exact ⟨_, (t363), (by first | rfl | (simp; done) | (simp [*]; done)), H', ⟨by have := HJ15.out; have := HK2.out; first | omega | exact Nat.le_refl _⟩, ⟨by (with_reducible repeat (first | apply Kd.V_alloc | apply Kd.V_drewN | apply Kd.V_drew)); (have hq_ := Kd.V_mono HO_0.out (fun k_ hk => (⟨hk, hk.2⟩ : _ ∧ k_ ≠ gb362)); have hq_ := Kd.V_far (p := ⟨gb362, 0, none⟩) hq_ (fun _ hk => hk.2) (.int .i64 t353); have hq_ := Kd.V_far (p := ⟨gb362, 1, none⟩) hq_ (fun _ hk => hk.2) (.int .i64 t354); have hq_ := Kd.V_far (p := ⟨gb362, 2, none⟩) hq_ (fun _ hk => hk.2) (.bool t355); have hq_ := Kd.V_far (p := ⟨gb362, 3, none⟩) hq_ (fun _ hk => hk.2) (.int .i64 t356); have hq_ := Kd.V_far (p := ⟨gb362, 4, none⟩) hq_ (fun _ hk => hk.2) (.string t357); have hq_ := Kd.V_far (p := ⟨gb362, 5, none⟩) hq_ (fun _ hk => hk.2) (.bool t358); have hq_ := Kd.V_far (p := ⟨gb362, 6, none⟩) hq_ (fun _ hk => hk.2) (.int .i64 t359); have hq_ := Kd.V_far (p := ⟨gb362, 7, none⟩) hq_ (fun _ hk => hk.2) (.string t360); exact Kd.V_mono hq_ (fun _ hk => ⟨hk.1.1.1, ⟨hk.1.1.2.1, ⟨hk.1.1.2.2.1, ⟨hk.1.1.2.2.2, hk.1.2⟩⟩⟩⟩))⟩, ⟨by (with_reducible repeat (first | apply Kd.R_alloc | apply Kd.R_drewN | apply Kd.R_drew)); (have hq_ := Kd.R_mono HO_5.out (fun k_ hk => (⟨hk, hk.2⟩ : _ ∧ k_ ≠ gb362)); have hq_ := Kd.R_far (p := ⟨gb362, 0, none⟩) hq_ (fun _ hk => hk.2) (.int .i64 t353); have hq_ := Kd.R_far (p := ⟨gb362, 1, none⟩) hq_ (fun _ hk => hk.2) (.int .i64 t354); have hq_ := Kd.R_far (p := ⟨gb362, 2, none⟩) hq_ (fun _ hk => hk.2) (.bool t355); have hq_ := Kd.R_far (p := ⟨gb362, 3, none⟩) hq_ (fun _ hk => hk.2) (.int .i64 t356); have hq_ := Kd.R_far (p := ⟨gb362, 4, none⟩) hq_ (fun _ hk => hk.2) (.string t357); have hq_ := Kd.R_far (p := ⟨gb362, 5, none⟩) hq_ (fun _ hk => hk.2) (.bool t358); have hq_ := Kd.R_far (p := ⟨gb362, 6, none⟩) hq_ (fun _ hk => hk.2) (.int .i64 t359); have hq_ := Kd.R_far (p := ⟨gb362, 7, none⟩) hq_ (fun _ hk => hk.2) (.string t360); exact Kd.R_mono hq_ (fun _ hk => hk.1.2))⟩, ⟨by (with_reducible repeat (first | apply Kd.R_alloc | apply Kd.R_drewN | apply Kd.R_drew)); (have hq_ := Kd.R_types HO_6.out BK362.out (by decide); have hq_ := Kd.R_far (p := ⟨gb362, 0, none⟩) hq_ (fun _ hk => hk.2) (.int .i64 t353); have hq_ := Kd.R_far (p := ⟨gb362, 1, none⟩) hq_ (fun _ hk => hk.2) (.int .i64 t354); have hq_ := Kd.R_far (p := ⟨gb362, 2, none⟩) hq_ (fun _ hk => hk.2) (.bool t355); have hq_ := Kd.R_far (p := ⟨gb362, 3, none⟩) hq_ (fun _ hk => hk.2) (.int .i64 t356); have hq_ := Kd.R_far (p := ⟨gb362, 4, none⟩) hq_ (fun _ hk => hk.2) (.string t357); have hq_ := Kd.R_far (p := ⟨gb362, 5, none⟩) hq_ (fun _ hk => hk.2) (.bool t358); have hq_ := Kd.R_far (p := ⟨gb362, 6, none⟩) hq_ (fun _ hk => hk.2) (.int .i64 t359); have hq_ := Kd.R_far (p := ⟨gb362, 7, none⟩) hq_ (fun _ hk => hk.2) (.string t360); exact Kd.R_mono hq_ (fun _ hk => hk.1))⟩, ⟨by (with_reducible repeat (first | apply Kd.R_alloc | apply Kd.R_drewN | apply Kd.R_drew)); (have hq_ := Kd.R_types HO_350002.out BK362.out (by decide); have hq_ := Kd.R_far (p := ⟨gb362, 0, none⟩) hq_ (fun _ hk => hk.2) (.int .i64 t353); have hq_ := Kd.R_far (p := ⟨gb362, 1, none⟩) hq_ (fun _ hk => hk.2) (.int .i64 t354); have hq_ := Kd.R_far (p := ⟨gb362, 2, none⟩) hq_ (fun _ hk => hk.2) (.bool t355); have hq_ := Kd.R_far (p := ⟨gb362, 3, none⟩) hq_ (fun _ hk => hk.2) (.int .i64 t356); have hq_ := Kd.R_far (p := ⟨gb362, 4, none⟩) hq_ (fun _ hk => hk.2) (.string t357); have hq_ := Kd.R_far (p := ⟨gb362, 5, none⟩) hq_ (fun _ hk => hk.2) (.bool t358); have hq_ := Kd.R_far (p := ⟨gb362, 6, none⟩) hq_ (fun _ hk => hk.2) (.int .i64 t359); have hq_ := Kd.R_far (p := ⟨gb362, 7, none⟩) hq_ (fun _ hk => hk.2) (.string t360); exact Kd.R_mono hq_ (fun _ hk => hk.1))⟩, ⟨by (with_reducible repeat refine blk_drewN ?_ _); (iterate 8 (refine blk_far ?_ NB349_362.out _)); (with_reducible repeat (first | refine blk_drewN ?_ _ | refine blk_drew ?_ | refine blk_alloc ?_ _)); exact BK349.out⟩, ⟨by (with_reducible repeat refine blk_drewN ?_ _); refine blk_put (cs := #[.int .i64 t353, .int .i64 t354, .bool t355, .int .i64 t356, .string t357, .bool t358, .int .i64 t359, .string (⟨#[]⟩ : ByteArray)]) ?_ 7 _ rfl; refine blk_put (cs := #[.int .i64 t353, .int .i64 t354, .bool t355, .int .i64 t356, .string t357, .bool t358, .int .i64 0, .string (⟨#[]⟩ : ByteArray)]) ?_ 6 _ rfl; refine blk_put (cs := #[.int .i64 t353, .int .i64 t354, .bool t355, .int .i64 t356, .string t357, .bool false, .int .i64 0, .string (⟨#[]⟩ : ByteArray)]) ?_ 5 _ rfl; refine blk_put (cs := #[.int .i64 t353, .int .i64 t354, .bool t355, .int .i64 t356, .string (⟨#[]⟩ : ByteArray), .bool false, .int .i64 0, .string (⟨#[]⟩ : ByteArray)]) ?_ 4 _ rfl; refine blk_put (cs := #[.int .i64 t353, .int .i64 t354, .bool t355, .int .i64 0, .string (⟨#[]⟩ : ByteArray), .bool false, .int .i64 0, .string (⟨#[]⟩ : ByteArray)]) ?_ 3 _ rfl; refine blk_put (cs := #[.int .i64 t353, .int .i64 t354, .bool false, .int .i64 0, .string (⟨#[]⟩ : ByteArray), .bool false, .int .i64 0, .string (⟨#[]⟩ : ByteArray)]) ?_ 2 _ rfl; refine blk_put (cs := #[.int .i64 t353, .int .i64 0, .bool false, .int .i64 0, .string (⟨#[]⟩ : ByteArray), .bool false, .int .i64 0, .string (⟨#[]⟩ : ByteArray)]) ?_ 1 _ rfl; refine blk_put (cs := #[.int .i64 0, .int .i64 0, .bool false, .int .i64 0, .string (⟨#[]⟩ : ByteArray), .bool false, .int .i64 0, .string (⟨#[]⟩ : ByteArray)]) ?_ 0 _ rfl; (with_reducible repeat (first | refine blk_drewN ?_ _ | refine blk_drew ?_ | refine blk_alloc ?_ _)); exact BK362.out⟩, ⟨by repeat (first | (with_reducible first | exact HB.out | apply below_alloc | apply pw_below_drewN | apply below_drew1 | refine below_set ?_ GE349.out | refine below_set ?_ GE362.out) | exact HB.out)⟩⟩
            ·rw [if_neg c38] at H
             have c38b0 : (t354 == t342) = false := beq_eq_false_iff_ne.mpr c38
             have c38b1 : (t354 != t342) = true := bne_iff_ne.mpr c38
             (first | rw [c38b0] | (simp only [i64_w, i32_w]; rw [c38b0]) | skip)
             by_cases c44 : t354 = t343
             ·rw [if_pos c44] at H
              have c44b0 : (t354 == t343) = true := beq_iff_eq.mpr c44
              have c44b1 : (t354 != t343) = false := bne_eq_false_iff_eq.mpr c44
              clear c44
              replace H := Option.bind_eq_some_iff.mp H
              obtain ⟨t364, A450, H⟩ := H
              replace H : (tithebarnlaw17_LevelsNames.j2 k2 t339 x5_2 x6_2 x7_2 t364 t342 t343 t344 t347 t353 t354 t355 t356 t357 t358 t359 t360) = some r := H
              have A45 := Aside0.mk A450
              clear A450
              have H' := Aside0.mk H
              clear H
              have hnb46 := NB362_349.out
              have hnc46 := NB349_362.out
              obtain ⟨hcz47_0, hcz47_1, hcz47_2, hcz47_3, hcz47_4, hcz47_5, hcz47_6, hcz47_7⟩ := bc8 BK362.out
              obtain ⟨hfz47_0, hfz47_1, hfz47_2, hfz47_3, hfz47_4, hfz47_5, hfz47_6, hfz47_7⟩ := bf8 BK362.out
              obtain ⟨hcz48_0, hcz48_1, hcz48_2, hcz48_3⟩ := bc4 BK349.out
              obtain ⟨hfz48_0, hfz48_1, hfz48_2, hfz48_3⟩ := bf4 BK349.out
              obtain ⟨Ao49, co49, eo49⟩ := Kd.R_slice HO_6.out
              subst eo49
              go_wp2_with (first | (go_at_call 19; (with_reducible refine (tithebarnlaw17_has.calls k2 _ _ x6_2 t353 t364 _ ?side1 ?side2 A45.out).mono ?_); (case side1 => refine (Kd.R_reads' (e := 3) (base := w.heap.size) (ok := fun k_ => some k_ ≠ (.slice (some ad352) t344.length co23 : Value).ownBlock) (n := x6_2.length) (c := co49) ?_).2.2; exact (by (with_reducible repeat (first | apply Kd.R_alloc | apply Kd.R_drewN | apply Kd.R_drew)); exact (Kd.R_mono (Kd.R_far (p := ⟨gb362, 7, none⟩) (Kd.R_far (p := ⟨gb362, 6, none⟩) (Kd.R_far (p := ⟨gb362, 5, none⟩) (Kd.R_far (p := ⟨gb362, 4, none⟩) (Kd.R_far (p := ⟨gb362, 3, none⟩) (Kd.R_far (p := ⟨gb362, 2, none⟩) (Kd.R_far (p := ⟨gb362, 1, none⟩) (Kd.R_far (p := ⟨gb362, 0, none⟩) (Kd.R_types HO_6.out BK362.out (by decide)) (fun _ hk => hk.2) (.int .i64 t353)) (fun _ hk => hk.2) (.int .i64 t354)) (fun _ hk => hk.2) (.bool t355)) (fun _ hk => hk.2) (.int .i64 t356)) (fun _ hk => hk.2) (.string t357)) (fun _ hk => hk.2) (.bool t358)) (fun _ hk => hk.2) (.int .i64 t359)) (fun _ hk => hk.2) (.string t360)) (fun _ h_ => h_.1)))); (case side2 => exact (Kd.R_reads' HO_6.out).2.1); rintro e w' ⟨rfl, ⟨nd, rfl⟩⟩))
              go_meet
              case rel => exact ⟨_, (t364), (by first | rfl | (simp; done) | (simp [*]; done)), H', ⟨by have := HJ15.out; have := HK2.out; first | omega | exact Nat.le_refl _⟩, ⟨by (with_reducible repeat (first | apply Kd.V_alloc | apply Kd.V_drewN | apply Kd.V_drew)); (have hq_ := Kd.V_mono HO_0.out (fun k_ hk => (⟨hk, hk.2⟩ : _ ∧ k_ ≠ gb362)); have hq_ := Kd.V_far (p := ⟨gb362, 0, none⟩) hq_ (fun _ hk => hk.2) (.int .i64 t353); have hq_ := Kd.V_far (p := ⟨gb362, 1, none⟩) hq_ (fun _ hk => hk.2) (.int .i64 t354); have hq_ := Kd.V_far (p := ⟨gb362, 2, none⟩) hq_ (fun _ hk => hk.2) (.bool t355); have hq_ := Kd.V_far (p := ⟨gb362, 3, none⟩) hq_ (fun _ hk => hk.2) (.int .i64 t356); have hq_ := Kd.V_far (p := ⟨gb362, 4, none⟩) hq_ (fun _ hk => hk.2) (.string t357); have hq_ := Kd.V_far (p := ⟨gb362, 5, none⟩) hq_ (fun _ hk => hk.2) (.bool t358); have hq_ := Kd.V_far (p := ⟨gb362, 6, none⟩) hq_ (fun _ hk => hk.2) (.int .i64 t359); have hq_ := Kd.V_far (p := ⟨gb362, 7, none⟩) hq_ (fun _ hk => hk.2) (.string t360); exact Kd.V_mono hq_ (fun _ hk => ⟨hk.1.1.1, ⟨hk.1.1.2.1, ⟨hk.1.1.2.2.1, ⟨hk.1.1.2.2.2, hk.1.2⟩⟩⟩⟩))⟩, ⟨by (with_reducible repeat (first | apply Kd.R_alloc | apply Kd.R_drewN | apply Kd.R_drew)); (have hq_ := Kd.R_mono HO_5.out (fun k_ hk => (⟨hk, hk.2⟩ : _ ∧ k_ ≠ gb362)); have hq_ := Kd.R_far (p := ⟨gb362, 0, none⟩) hq_ (fun _ hk => hk.2) (.int .i64 t353); have hq_ := Kd.R_far (p := ⟨gb362, 1, none⟩) hq_ (fun _ hk => hk.2) (.int .i64 t354); have hq_ := Kd.R_far (p := ⟨gb362, 2, none⟩) hq_ (fun _ hk => hk.2) (.bool t355); have hq_ := Kd.R_far (p := ⟨gb362, 3, none⟩) hq_ (fun _ hk => hk.2) (.int .i64 t356); have hq_ := Kd.R_far (p := ⟨gb362, 4, none⟩) hq_ (fun _ hk => hk.2) (.string t357); have hq_ := Kd.R_far (p := ⟨gb362, 5, none⟩) hq_ (fun _ hk => hk.2) (.bool t358); have hq_ := Kd.R_far (p := ⟨gb362, 6, none⟩) hq_ (fun _ hk => hk.2) (.int .i64 t359); have hq_ := Kd.R_far (p := ⟨gb362, 7, none⟩) hq_ (fun _ hk => hk.2) (.string t360); exact Kd.R_mono hq_ (fun _ hk => hk.1.2))⟩, ⟨by (with_reducible repeat (first | apply Kd.R_alloc | apply Kd.R_drewN | apply Kd.R_drew)); (have hq_ := Kd.R_types HO_6.out BK362.out (by decide); have hq_ := Kd.R_far (p := ⟨gb362, 0, none⟩) hq_ (fun _ hk => hk.2) (.int .i64 t353); have hq_ := Kd.R_far (p := ⟨gb362, 1, none⟩) hq_ (fun _ hk => hk.2) (.int .i64 t354); have hq_ := Kd.R_far (p := ⟨gb362, 2, none⟩) hq_ (fun _ hk => hk.2) (.bool t355); have hq_ := Kd.R_far (p := ⟨gb362, 3, none⟩) hq_ (fun _ hk => hk.2) (.int .i64 t356); have hq_ := Kd.R_far (p := ⟨gb362, 4, none⟩) hq_ (fun _ hk => hk.2) (.string t357); have hq_ := Kd.R_far (p := ⟨gb362, 5, none⟩) hq_ (fun _ hk => hk.2) (.bool t358); have hq_ := Kd.R_far (p := ⟨gb362, 6, none⟩) hq_ (fun _ hk => hk.2) (.int .i64 t359); have hq_ := Kd.R_far (p := ⟨gb362, 7, none⟩) hq_ (fun _ hk => hk.2) (.string t360); exact Kd.R_mono hq_ (fun _ hk => hk.1))⟩, ⟨by (with_reducible repeat (first | apply Kd.R_alloc | apply Kd.R_drewN | apply Kd.R_drew)); (have hq_ := Kd.R_types HO_350002.out BK362.out (by decide); have hq_ := Kd.R_far (p := ⟨gb362, 0, none⟩) hq_ (fun _ hk => hk.2) (.int .i64 t353); have hq_ := Kd.R_far (p := ⟨gb362, 1, none⟩) hq_ (fun _ hk => hk.2) (.int .i64 t354); have hq_ := Kd.R_far (p := ⟨gb362, 2, none⟩) hq_ (fun _ hk => hk.2) (.bool t355); have hq_ := Kd.R_far (p := ⟨gb362, 3, none⟩) hq_ (fun _ hk => hk.2) (.int .i64 t356); have hq_ := Kd.R_far (p := ⟨gb362, 4, none⟩) hq_ (fun _ hk => hk.2) (.string t357); have hq_ := Kd.R_far (p := ⟨gb362, 5, none⟩) hq_ (fun _ hk => hk.2) (.bool t358); have hq_ := Kd.R_far (p := ⟨gb362, 6, none⟩) hq_ (fun _ hk => hk.2) (.int .i64 t359); have hq_ := Kd.R_far (p := ⟨gb362, 7, none⟩) hq_ (fun _ hk => hk.2) (.string t360); exact Kd.R_mono hq_ (fun _ hk => hk.1))⟩, ⟨by (with_reducible repeat refine blk_drewN ?_ _); (iterate 8 (refine blk_far ?_ NB349_362.out _)); (with_reducible repeat (first | refine blk_drewN ?_ _ | refine blk_drew ?_ | refine blk_alloc ?_ _)); exact BK349.out⟩, ⟨by (with_reducible repeat refine blk_drewN ?_ _); refine blk_put (cs := #[.int .i64 t353, .int .i64 t354, .bool t355, .int .i64 t356, .string t357, .bool t358, .int .i64 t359, .string (⟨#[]⟩ : ByteArray)]) ?_ 7 _ rfl; refine blk_put (cs := #[.int .i64 t353, .int .i64 t354, .bool t355, .int .i64 t356, .string t357, .bool t358, .int .i64 0, .string (⟨#[]⟩ : ByteArray)]) ?_ 6 _ rfl; refine blk_put (cs := #[.int .i64 t353, .int .i64 t354, .bool t355, .int .i64 t356, .string t357, .bool false, .int .i64 0, .string (⟨#[]⟩ : ByteArray)]) ?_ 5 _ rfl; refine blk_put (cs := #[.int .i64 t353, .int .i64 t354, .bool t355, .int .i64 t356, .string (⟨#[]⟩ : ByteArray), .bool false, .int .i64 0, .string (⟨#[]⟩ : ByteArray)]) ?_ 4 _ rfl; refine blk_put (cs := #[.int .i64 t353, .int .i64 t354, .bool t355, .int .i64 0, .string (⟨#[]⟩ : ByteArray), .bool false, .int .i64 0, .string (⟨#[]⟩ : ByteArray)]) ?_ 3 _ rfl; refine blk_put (cs := #[.int .i64 t353, .int .i64 t354, .bool false, .int .i64 0, .string (⟨#[]⟩ : ByteArray), .bool false, .int .i64 0, .string (⟨#[]⟩ : ByteArray)]) ?_ 2 _ rfl; refine blk_put (cs := #[.int .i64 t353, .int .i64 0, .bool false, .int .i64 0, .string (⟨#[]⟩ : ByteArray), .bool false, .int .i64 0, .string (⟨#[]⟩ : ByteArray)]) ?_ 1 _ rfl; refine blk_put (cs := #[.int .i64 0, .int .i64 0, .bool false, .int .i64 0, .string (⟨#[]⟩ : ByteArray), .bool false, .int .i64 0, .string (⟨#[]⟩ : ByteArray)]) ?_ 0 _ rfl; (with_reducible repeat (first | refine blk_drewN ?_ _ | refine blk_drew ?_ | refine blk_alloc ?_ _)); exact BK362.out⟩, ⟨by repeat (first | (with_reducible first | exact HB.out | apply below_alloc | apply pw_below_drewN | apply below_drew1 | refine below_set ?_ GE349.out | refine below_set ?_ GE362.out) | exact HB.out)⟩⟩
             ·rw [if_neg c44] at H
              have c44b0 : (t354 == t343) = false := beq_eq_false_iff_ne.mpr c44
              have c44b1 : (t354 != t343) = true := bne_iff_ne.mpr c44
              have H' := Aside0.mk H
              clear H
              have hnb50 := NB362_349.out
              have hnc50 := NB349_362.out
              obtain ⟨hcz51_0, hcz51_1, hcz51_2, hcz51_3, hcz51_4, hcz51_5, hcz51_6, hcz51_7⟩ := bc8 BK362.out
              obtain ⟨hfz51_0, hfz51_1, hfz51_2, hfz51_3, hfz51_4, hfz51_5, hfz51_6, hfz51_7⟩ := bf8 BK362.out
              obtain ⟨hcz52_0, hcz52_1, hcz52_2, hcz52_3⟩ := bc4 BK349.out
              obtain ⟨hfz52_0, hfz52_1, hfz52_2, hfz52_3⟩ := bf4 BK349.out
              go_wp2
              go_meet
              case rel => exact ⟨_, (true), (by first | rfl | (simp; done) | (simp [*]; done)), H', ⟨by have := HJ15.out; have := HK2.out; first | omega | exact Nat.le_refl _⟩, ⟨by (with_reducible repeat (first | apply Kd.V_alloc | apply Kd.V_drewN | apply Kd.V_drew)); (have hq_ := Kd.V_mono HO_0.out (fun k_ hk => (⟨hk, hk.2⟩ : _ ∧ k_ ≠ gb362)); have hq_ := Kd.V_far (p := ⟨gb362, 0, none⟩) hq_ (fun _ hk => hk.2) (.int .i64 t353); have hq_ := Kd.V_far (p := ⟨gb362, 1, none⟩) hq_ (fun _ hk => hk.2) (.int .i64 t354); have hq_ := Kd.V_far (p := ⟨gb362, 2, none⟩) hq_ (fun _ hk => hk.2) (.bool t355); have hq_ := Kd.V_far (p := ⟨gb362, 3, none⟩) hq_ (fun _ hk => hk.2) (.int .i64 t356); have hq_ := Kd.V_far (p := ⟨gb362, 4, none⟩) hq_ (fun _ hk => hk.2) (.string t357); have hq_ := Kd.V_far (p := ⟨gb362, 5, none⟩) hq_ (fun _ hk => hk.2) (.bool t358); have hq_ := Kd.V_far (p := ⟨gb362, 6, none⟩) hq_ (fun _ hk => hk.2) (.int .i64 t359); have hq_ := Kd.V_far (p := ⟨gb362, 7, none⟩) hq_ (fun _ hk => hk.2) (.string t360); exact Kd.V_mono hq_ (fun _ hk => ⟨hk.1.1.1, ⟨hk.1.1.2.1, ⟨hk.1.1.2.2.1, ⟨hk.1.1.2.2.2, hk.1.2⟩⟩⟩⟩))⟩, ⟨by (with_reducible repeat (first | apply Kd.R_alloc | apply Kd.R_drewN | apply Kd.R_drew)); (have hq_ := Kd.R_mono HO_5.out (fun k_ hk => (⟨hk, hk.2⟩ : _ ∧ k_ ≠ gb362)); have hq_ := Kd.R_far (p := ⟨gb362, 0, none⟩) hq_ (fun _ hk => hk.2) (.int .i64 t353); have hq_ := Kd.R_far (p := ⟨gb362, 1, none⟩) hq_ (fun _ hk => hk.2) (.int .i64 t354); have hq_ := Kd.R_far (p := ⟨gb362, 2, none⟩) hq_ (fun _ hk => hk.2) (.bool t355); have hq_ := Kd.R_far (p := ⟨gb362, 3, none⟩) hq_ (fun _ hk => hk.2) (.int .i64 t356); have hq_ := Kd.R_far (p := ⟨gb362, 4, none⟩) hq_ (fun _ hk => hk.2) (.string t357); have hq_ := Kd.R_far (p := ⟨gb362, 5, none⟩) hq_ (fun _ hk => hk.2) (.bool t358); have hq_ := Kd.R_far (p := ⟨gb362, 6, none⟩) hq_ (fun _ hk => hk.2) (.int .i64 t359); have hq_ := Kd.R_far (p := ⟨gb362, 7, none⟩) hq_ (fun _ hk => hk.2) (.string t360); exact Kd.R_mono hq_ (fun _ hk => hk.1.2))⟩, ⟨by (with_reducible repeat (first | apply Kd.R_alloc | apply Kd.R_drewN | apply Kd.R_drew)); (have hq_ := Kd.R_types HO_6.out BK362.out (by decide); have hq_ := Kd.R_far (p := ⟨gb362, 0, none⟩) hq_ (fun _ hk => hk.2) (.int .i64 t353); have hq_ := Kd.R_far (p := ⟨gb362, 1, none⟩) hq_ (fun _ hk => hk.2) (.int .i64 t354); have hq_ := Kd.R_far (p := ⟨gb362, 2, none⟩) hq_ (fun _ hk => hk.2) (.bool t355); have hq_ := Kd.R_far (p := ⟨gb362, 3, none⟩) hq_ (fun _ hk => hk.2) (.int .i64 t356); have hq_ := Kd.R_far (p := ⟨gb362, 4, none⟩) hq_ (fun _ hk => hk.2) (.string t357); have hq_ := Kd.R_far (p := ⟨gb362, 5, none⟩) hq_ (fun _ hk => hk.2) (.bool t358); have hq_ := Kd.R_far (p := ⟨gb362, 6, none⟩) hq_ (fun _ hk => hk.2) (.int .i64 t359); have hq_ := Kd.R_far (p := ⟨gb362, 7, none⟩) hq_ (fun _ hk => hk.2) (.string t360); exact Kd.R_mono hq_ (fun _ hk => hk.1))⟩, ⟨by (with_reducible repeat (first | apply Kd.R_alloc | apply Kd.R_drewN | apply Kd.R_drew)); (have hq_ := Kd.R_types HO_350002.out BK362.out (by decide); have hq_ := Kd.R_far (p := ⟨gb362, 0, none⟩) hq_ (fun _ hk => hk.2) (.int .i64 t353); have hq_ := Kd.R_far (p := ⟨gb362, 1, none⟩) hq_ (fun _ hk => hk.2) (.int .i64 t354); have hq_ := Kd.R_far (p := ⟨gb362, 2, none⟩) hq_ (fun _ hk => hk.2) (.bool t355); have hq_ := Kd.R_far (p := ⟨gb362, 3, none⟩) hq_ (fun _ hk => hk.2) (.int .i64 t356); have hq_ := Kd.R_far (p := ⟨gb362, 4, none⟩) hq_ (fun _ hk => hk.2) (.string t357); have hq_ := Kd.R_far (p := ⟨gb362, 5, none⟩) hq_ (fun _ hk => hk.2) (.bool t358); have hq_ := Kd.R_far (p := ⟨gb362, 6, none⟩) hq_ (fun _ hk => hk.2) (.int .i64 t359); have hq_ := Kd.R_far (p := ⟨gb362, 7, none⟩) hq_ (fun _ hk => hk.2) (.string t360); exact Kd.R_mono hq_ (fun _ hk => hk.1))⟩, ⟨by (with_reducible repeat refine blk_drewN ?_ _); (iterate 8 (refine blk_far ?_ NB349_362.out _)); (with_reducible repeat (first | refine blk_drewN ?_ _ | refine blk_drew ?_ | refine blk_alloc ?_ _)); exact BK349.out⟩, ⟨by (with_reducible repeat refine blk_drewN ?_ _); refine blk_put (cs := #[.int .i64 t353, .int .i64 t354, .bool t355, .int .i64 t356, .string t357, .bool t358, .int .i64 t359, .string (⟨#[]⟩ : ByteArray)]) ?_ 7 _ rfl; refine blk_put (cs := #[.int .i64 t353, .int .i64 t354, .bool t355, .int .i64 t356, .string t357, .bool t358, .int .i64 0, .string (⟨#[]⟩ : ByteArray)]) ?_ 6 _ rfl; refine blk_put (cs := #[.int .i64 t353, .int .i64 t354, .bool t355, .int .i64 t356, .string t357, .bool false, .int .i64 0, .string (⟨#[]⟩ : ByteArray)]) ?_ 5 _ rfl; refine blk_put (cs := #[.int .i64 t353, .int .i64 t354, .bool t355, .int .i64 t356, .string (⟨#[]⟩ : ByteArray), .bool false, .int .i64 0, .string (⟨#[]⟩ : ByteArray)]) ?_ 4 _ rfl; refine blk_put (cs := #[.int .i64 t353, .int .i64 t354, .bool t355, .int .i64 0, .string (⟨#[]⟩ : ByteArray), .bool false, .int .i64 0, .string (⟨#[]⟩ : ByteArray)]) ?_ 3 _ rfl; refine blk_put (cs := #[.int .i64 t353, .int .i64 t354, .bool false, .int .i64 0, .string (⟨#[]⟩ : ByteArray), .bool false, .int .i64 0, .string (⟨#[]⟩ : ByteArray)]) ?_ 2 _ rfl; refine blk_put (cs := #[.int .i64 t353, .int .i64 0, .bool false, .int .i64 0, .string (⟨#[]⟩ : ByteArray), .bool false, .int .i64 0, .string (⟨#[]⟩ : ByteArray)]) ?_ 1 _ rfl; refine blk_put (cs := #[.int .i64 0, .int .i64 0, .bool false, .int .i64 0, .string (⟨#[]⟩ : ByteArray), .bool false, .int .i64 0, .string (⟨#[]⟩ : ByteArray)]) ?_ 0 _ rfl; (with_reducible repeat (first | refine blk_drewN ?_ _ | refine blk_drew ?_ | refine blk_alloc ?_ _)); exact BK362.out⟩, ⟨by repeat (first | (with_reducible first | exact HB.out | apply below_alloc | apply pw_below_drewN | apply below_drew1 | refine below_set ?_ GE349.out | refine below_set ?_ GE362.out) | exact HB.out)⟩⟩
           ·replace c37 := Bool.eq_false_iff.mpr c37
            subst c37
            have H1 : (tithebarnlaw17_LevelsNames.j2 k2 t339 x5_2 x6_2 x7_2 true t342 t343 t344 t347 t353 t354 t355 t356 t357 t358 t359 t360) = some r := by rw [if_neg (show ¬ (false = true) by decide)] at H; exact H
            clear H
            have H := H1
            clear H1
            have H' := Aside0.mk H
            clear H
            go_wp2
            go_meet
            case rel => exact ⟨_, (true), (by first | rfl | (simp; done) | (simp [*]; done)), H', ⟨by have := HJ15.out; have := HK2.out; first | omega | exact Nat.le_refl _⟩, ⟨by (with_reducible repeat (first | apply Kd.V_alloc | apply Kd.V_drewN | apply Kd.V_drew)); (have hq_ := Kd.V_mono HO_0.out (fun k_ hk => (⟨hk, hk.2⟩ : _ ∧ k_ ≠ gb362)); have hq_ := Kd.V_far (p := ⟨gb362, 0, none⟩) hq_ (fun _ hk => hk.2) (.int .i64 t353); have hq_ := Kd.V_far (p := ⟨gb362, 1, none⟩) hq_ (fun _ hk => hk.2) (.int .i64 t354); have hq_ := Kd.V_far (p := ⟨gb362, 2, none⟩) hq_ (fun _ hk => hk.2) (.bool t355); have hq_ := Kd.V_far (p := ⟨gb362, 3, none⟩) hq_ (fun _ hk => hk.2) (.int .i64 t356); have hq_ := Kd.V_far (p := ⟨gb362, 4, none⟩) hq_ (fun _ hk => hk.2) (.string t357); have hq_ := Kd.V_far (p := ⟨gb362, 5, none⟩) hq_ (fun _ hk => hk.2) (.bool t358); have hq_ := Kd.V_far (p := ⟨gb362, 6, none⟩) hq_ (fun _ hk => hk.2) (.int .i64 t359); have hq_ := Kd.V_far (p := ⟨gb362, 7, none⟩) hq_ (fun _ hk => hk.2) (.string t360); exact Kd.V_mono hq_ (fun _ hk => ⟨hk.1.1.1, ⟨hk.1.1.2.1, ⟨hk.1.1.2.2.1, ⟨hk.1.1.2.2.2, hk.1.2⟩⟩⟩⟩))⟩, ⟨by (with_reducible repeat (first | apply Kd.R_alloc | apply Kd.R_drewN | apply Kd.R_drew)); (have hq_ := Kd.R_mono HO_5.out (fun k_ hk => (⟨hk, hk.2⟩ : _ ∧ k_ ≠ gb362)); have hq_ := Kd.R_far (p := ⟨gb362, 0, none⟩) hq_ (fun _ hk => hk.2) (.int .i64 t353); have hq_ := Kd.R_far (p := ⟨gb362, 1, none⟩) hq_ (fun _ hk => hk.2) (.int .i64 t354); have hq_ := Kd.R_far (p := ⟨gb362, 2, none⟩) hq_ (fun _ hk => hk.2) (.bool t355); have hq_ := Kd.R_far (p := ⟨gb362, 3, none⟩) hq_ (fun _ hk => hk.2) (.int .i64 t356); have hq_ := Kd.R_far (p := ⟨gb362, 4, none⟩) hq_ (fun _ hk => hk.2) (.string t357); have hq_ := Kd.R_far (p := ⟨gb362, 5, none⟩) hq_ (fun _ hk => hk.2) (.bool t358); have hq_ := Kd.R_far (p := ⟨gb362, 6, none⟩) hq_ (fun _ hk => hk.2) (.int .i64 t359); have hq_ := Kd.R_far (p := ⟨gb362, 7, none⟩) hq_ (fun _ hk => hk.2) (.string t360); exact Kd.R_mono hq_ (fun _ hk => hk.1.2))⟩, ⟨by (with_reducible repeat (first | apply Kd.R_alloc | apply Kd.R_drewN | apply Kd.R_drew)); (have hq_ := Kd.R_types HO_6.out BK362.out (by decide); have hq_ := Kd.R_far (p := ⟨gb362, 0, none⟩) hq_ (fun _ hk => hk.2) (.int .i64 t353); have hq_ := Kd.R_far (p := ⟨gb362, 1, none⟩) hq_ (fun _ hk => hk.2) (.int .i64 t354); have hq_ := Kd.R_far (p := ⟨gb362, 2, none⟩) hq_ (fun _ hk => hk.2) (.bool t355); have hq_ := Kd.R_far (p := ⟨gb362, 3, none⟩) hq_ (fun _ hk => hk.2) (.int .i64 t356); have hq_ := Kd.R_far (p := ⟨gb362, 4, none⟩) hq_ (fun _ hk => hk.2) (.string t357); have hq_ := Kd.R_far (p := ⟨gb362, 5, none⟩) hq_ (fun _ hk => hk.2) (.bool t358); have hq_ := Kd.R_far (p := ⟨gb362, 6, none⟩) hq_ (fun _ hk => hk.2) (.int .i64 t359); have hq_ := Kd.R_far (p := ⟨gb362, 7, none⟩) hq_ (fun _ hk => hk.2) (.string t360); exact Kd.R_mono hq_ (fun _ hk => hk.1))⟩, ⟨by (with_reducible repeat (first | apply Kd.R_alloc | apply Kd.R_drewN | apply Kd.R_drew)); (have hq_ := Kd.R_types HO_350002.out BK362.out (by decide); have hq_ := Kd.R_far (p := ⟨gb362, 0, none⟩) hq_ (fun _ hk => hk.2) (.int .i64 t353); have hq_ := Kd.R_far (p := ⟨gb362, 1, none⟩) hq_ (fun _ hk => hk.2) (.int .i64 t354); have hq_ := Kd.R_far (p := ⟨gb362, 2, none⟩) hq_ (fun _ hk => hk.2) (.bool t355); have hq_ := Kd.R_far (p := ⟨gb362, 3, none⟩) hq_ (fun _ hk => hk.2) (.int .i64 t356); have hq_ := Kd.R_far (p := ⟨gb362, 4, none⟩) hq_ (fun _ hk => hk.2) (.string t357); have hq_ := Kd.R_far (p := ⟨gb362, 5, none⟩) hq_ (fun _ hk => hk.2) (.bool t358); have hq_ := Kd.R_far (p := ⟨gb362, 6, none⟩) hq_ (fun _ hk => hk.2) (.int .i64 t359); have hq_ := Kd.R_far (p := ⟨gb362, 7, none⟩) hq_ (fun _ hk => hk.2) (.string t360); exact Kd.R_mono hq_ (fun _ hk => hk.1))⟩, ⟨by (with_reducible repeat refine blk_drewN ?_ _); (iterate 8 (refine blk_far ?_ NB349_362.out _)); (with_reducible repeat (first | refine blk_drewN ?_ _ | refine blk_drew ?_ | refine blk_alloc ?_ _)); exact BK349.out⟩, ⟨by (with_reducible repeat refine blk_drewN ?_ _); refine blk_put (cs := #[.int .i64 t353, .int .i64 t354, .bool t355, .int .i64 t356, .string t357, .bool t358, .int .i64 t359, .string (⟨#[]⟩ : ByteArray)]) ?_ 7 _ rfl; refine blk_put (cs := #[.int .i64 t353, .int .i64 t354, .bool t355, .int .i64 t356, .string t357, .bool t358, .int .i64 0, .string (⟨#[]⟩ : ByteArray)]) ?_ 6 _ rfl; refine blk_put (cs := #[.int .i64 t353, .int .i64 t354, .bool t355, .int .i64 t356, .string t357, .bool false, .int .i64 0, .string (⟨#[]⟩ : ByteArray)]) ?_ 5 _ rfl; refine blk_put (cs := #[.int .i64 t353, .int .i64 t354, .bool t355, .int .i64 t356, .string (⟨#[]⟩ : ByteArray), .bool false, .int .i64 0, .string (⟨#[]⟩ : ByteArray)]) ?_ 4 _ rfl; refine blk_put (cs := #[.int .i64 t353, .int .i64 t354, .bool t355, .int .i64 0, .string (⟨#[]⟩ : ByteArray), .bool false, .int .i64 0, .string (⟨#[]⟩ : ByteArray)]) ?_ 3 _ rfl; refine blk_put (cs := #[.int .i64 t353, .int .i64 t354, .bool false, .int .i64 0, .string (⟨#[]⟩ : ByteArray), .bool false, .int .i64 0, .string (⟨#[]⟩ : ByteArray)]) ?_ 2 _ rfl; refine blk_put (cs := #[.int .i64 t353, .int .i64 0, .bool false, .int .i64 0, .string (⟨#[]⟩ : ByteArray), .bool false, .int .i64 0, .string (⟨#[]⟩ : ByteArray)]) ?_ 1 _ rfl; refine blk_put (cs := #[.int .i64 0, .int .i64 0, .bool false, .int .i64 0, .string (⟨#[]⟩ : ByteArray), .bool false, .int .i64 0, .string (⟨#[]⟩ : ByteArray)]) ?_ 0 _ rfl; (with_reducible repeat (first | refine blk_drewN ?_ _ | refine blk_drew ?_ | refine blk_alloc ?_ _)); exact BK362.out⟩, ⟨by repeat (first | (with_reducible first | exact HB.out | apply below_alloc | apply pw_below_drewN | apply below_drew1 | refine below_set ?_ GE349.out | refine below_set ?_ GE362.out) | exact HB.out)⟩⟩
          case rest =>
           clear HC31
           try clear c1
           try clear c2
           try clear p2
           try clear c3
           try clear p3
           try clear q3
           try clear hx3
           try clear c4
           try clear c5
           try clear c7
           try clear c7b0
           try clear c7b1
           try clear c7b2
           try clear c8
           try clear c9
           try clear c10
           try clear c15
           try clear c18
           try clear c25
           try clear c27
           try clear c28
           try clear c28b0
           try clear c29
           try clear c29b0
           try clear c35
           try clear p35
           try clear q35
           try clear hx35
           try clear c37
           try clear c38
           try clear c38b0
           try clear c38b1
           try clear c40
           try clear c44
           try clear c44b0
           try clear c44b1
           try clear c46
           try clear c50
           try clear hcz13_0 hcz13_1 hcz13_2 hcz13_3
           try clear hcz22_0 hcz22_1 hcz22_2 hcz22_3
           try clear hcz32_0 hcz32_1 hcz32_2 hcz32_3
           try clear hcz36_0 hcz36_1 hcz36_2 hcz36_3 hcz36_4 hcz36_5 hcz36_6 hcz36_7
           try clear hcz41_0 hcz41_1 hcz41_2 hcz41_3 hcz41_4 hcz41_5 hcz41_6 hcz41_7
           try clear hcz42_0 hcz42_1 hcz42_2 hcz42_3
           try clear hcz47_0 hcz47_1 hcz47_2 hcz47_3 hcz47_4 hcz47_5 hcz47_6 hcz47_7
           try clear hcz48_0 hcz48_1 hcz48_2 hcz48_3
           try clear hcz51_0 hcz51_1 hcz51_2 hcz51_3 hcz51_4 hcz51_5 hcz51_6 hcz51_7
           try clear hcz52_0 hcz52_1 hcz52_2 hcz52_3
           try clear hfz13_0 hfz13_1 hfz13_2 hfz13_3
           try clear hfz22_0 hfz22_1 hfz22_2 hfz22_3
           try clear hfz32_0 hfz32_1 hfz32_2 hfz32_3
           try clear hfz36_0 hfz36_1 hfz36_2 hfz36_3 hfz36_4 hfz36_5 hfz36_6 hfz36_7
           try clear hfz41_0 hfz41_1 hfz41_2 hfz41_3 hfz41_4 hfz41_5 hfz41_6 hfz41_7
           try clear hfz42_0 hfz42_1 hfz42_2 hfz42_3
           try clear hfz47_0 hfz47_1 hfz47_2 hfz47_3 hfz47_4 hfz47_5 hfz47_6 hfz47_7
           try clear hfz48_0 hfz48_1 hfz48_2 hfz48_3
           try clear hfz51_0 hfz51_1 hfz51_2 hfz51_3 hfz51_4 hfz51_5 hfz51_6 hfz51_7
           try clear hfz52_0 hfz52_1 hfz52_2 hfz52_3
           try clear hx352_0
           try clear p2
           try clear p352
           try clear q352
           obtain ⟨kq, x70_30, rfl, HA, HJ30, HO_0, HO_5, HO_6, HO_350002, BK349, BK362, HB⟩ := hcut
           cases kq with
           | zero => exact absurd HA.out (by simp [tithebarnlaw17_LevelsNames.j2])
           | succ kj30 =>
            have H := HA.out
            clear HA
            simp only [tithebarnlaw17_LevelsNames.j2] at H
            by_cases c53 : x70_30 = true
            ·subst c53
             have H1 : (some false) = some r := by rw [if_pos rfl] at H; exact H
             clear H
             have H := H1
             clear H1
             obtain rfl := Option.some.inj H
             go_wp2
             go_ret
             exact ⟨by first | rfl | (simp [errW_none, errW_some] <;> rfl) | (simp [*, errW_none, errW_some] <;> rfl), by repeat (first | (with_reducible first | exact HB.out | apply below_alloc | apply pw_below_drewN | apply below_drew1 | refine below_set ?_ GE349.out | refine below_set ?_ GE362.out) | exact HB.out)⟩
            ·replace c53 := Bool.eq_false_iff.mpr c53
             subst c53
             have H1 : (if x6_2.length < 17592186044416 then ((some (x6_2 ++ [t353] : List Int)).bind fun y365 => (if t354 = t342 then (if x5_2.length < 1759218604441 then (tithebarnlaw17_LevelsNames.l0 kj30 t339 (x5_2 ++ [(⟨t353, t354, (⟨t355, t356, t357⟩ : S36), (⟨t358, t359, t360⟩ : S36)⟩ : S38)]) y365 (wrap64 (x7_2 + 1)) t342 t343 t344 t347) else (none)) else (tithebarnlaw17_LevelsNames.l0 kj30 t339 x5_2 y365 (wrap64 (x7_2 + 1)) t342 t343 t344 t347))) else (none)) = some r := by rw [if_neg (show ¬ (false = true) by decide)] at H; exact H
             clear H
             have H := H1
             clear H1
             by_cases c54 : x6_2.length < 17592186044416
             ·rw [if_pos c54] at H
              have LMc54 := Aside0.mk c54
              clear c54
              obtain ⟨y365, hy365⟩ : ∃ y_ : List Int, y_ = (x6_2 ++ [t353]) := ⟨_, rfl⟩
              replace H : (if t354 = t342 then (if x5_2.length < 1759218604441 then (tithebarnlaw17_LevelsNames.l0 kj30 t339 (x5_2 ++ [(⟨t353, t354, (⟨t355, t356, t357⟩ : S36), (⟨t358, t359, t360⟩ : S36)⟩ : S38)]) y365 (wrap64 (x7_2 + 1)) t342 t343 t344 t347) else (none)) else (tithebarnlaw17_LevelsNames.l0 kj30 t339 x5_2 y365 (wrap64 (x7_2 + 1)) t342 t343 t344 t347)) = some r := by first | (rw [hy365]; with_reducible exact H) | (have H2_ := (Option.bind_some _ _).symm.trans H; rw [hy365]; with_reducible exact H2_) | (have H2_ := (Option.bind_some _ _).symm.trans H; with_reducible exact H2_) | with_reducible exact H | (rw [hy365]; exact H) | exact H
              have Ny365 := Aside0.mk hy365
              clear hy365
              by_cases c55 : t354 = t342
              ·rw [if_pos c55] at H
               have c55b0 : (t354 == t342) = true := beq_iff_eq.mpr c55
               have c55b1 : (t354 != t342) = false := bne_eq_false_iff_eq.mpr c55
               clear c55
               by_cases c56 : x5_2.length < 1759218604441
               ·rw [if_pos c56] at H
                have LMc56 := Aside0.mk c56
                clear c56
                obtain ⟨y368, hy368⟩ : ∃ y_ : List (S38), y_ = (x5_2 ++ [(⟨t353, t354, (⟨t355, t356, t357⟩ : S36), (⟨t358, t359, t360⟩ : S36)⟩ : S38)]) := ⟨_, rfl⟩
                replace H : (tithebarnlaw17_LevelsNames.l0 kj30 t339 y368 y365 (wrap64 (x7_2 + 1)) t342 t343 t344 t347) = some r := by first | (rw [hy368]; with_reducible exact H) | (have H2_ := (Option.bind_some _ _).symm.trans H; rw [hy368]; with_reducible exact H2_) | (have H2_ := (Option.bind_some _ _).symm.trans H; with_reducible exact H2_) | with_reducible exact H | (rw [hy368]; exact H) | exact H
                have Ny368 := Aside0.mk hy368
                clear hy368
                have H' := Aside0.mk H
                clear H
                have hnb57 := NB362_349.out
                have hnc57 := NB349_362.out
                obtain ⟨hcz58_0, hcz58_1, hcz58_2, hcz58_3, hcz58_4, hcz58_5, hcz58_6, hcz58_7⟩ := bc8 BK362.out
                obtain ⟨hfz58_0, hfz58_1, hfz58_2, hfz58_3, hfz58_4, hfz58_5, hfz58_6, hfz58_7⟩ := bf8 BK362.out
                go_wp2_with (first | ((with_reducible refine gate_builtin (b := .append) (xs := #[.tmp 71, .tmp 74]) rfl ?_); (try (refine gate_guard (by rfl) ?_; dsimp only)); at_builtin; refine Kd.R_append (Kd.int .i64) (w0 := w) w.heap.size rfl (.tmp 71) (.tmp 74) 25 3 (.int .i64 0) 8 rfl Try.underlying25 info3 rfl (by decide) (by omega) u6 x6_2 t353 [.int .i64 t353] (fun k_ => some k_ ≠ (.slice (some ad352) t344.length co23 : Value).ownBlock) (fun _ => False) rfl rfl ?aP (fun _ hk => hk.elim) ?aF ?aO ?aB ?aS ?aL ?_; (case aP => exact rfl); (case aB => exact (by with_reducible repeat first | exact HB.out | apply below_alloc | apply pw_below_drewN | apply below_drew1 | refine below_set ?_ GE349.out | refine below_set ?_ GE362.out)); (case aF => exact (fun k_ hk => Kd.fresh' (Kd.R_lt (by (with_reducible repeat (first | apply Kd.R_alloc | apply Kd.R_drewN | apply Kd.R_drew)); exact HO_350002.out)) k_ hk)); (case aO => exact (by (with_reducible repeat (first | apply Kd.R_alloc | apply Kd.R_drewN | apply Kd.R_drew)); exact HO_6.out)); (case aS => exact (below_size (by with_reducible repeat first | exact HB.out | apply below_alloc | apply pw_below_drewN | apply below_drew1 | refine below_set ?_ GE349.out | refine below_set ?_ GE362.out))); (case aL => have := LMc54.out; omega); intro v366 w59 ho hb hg hat; rw [← Ny365.out] at ho; have n0_ := Aside0.mk (Kd.V_afterv (ok := (fun k_ => some k_ ≠ (u5 : Value).ownBlock ∧ some k_ ≠ (.slice (some ad352) t344.length co23 : Value).ownBlock ∧ k_ ≠ gb349 ∧ k_ ≠ gb362)) (by (with_reducible repeat (first | apply Kd.V_alloc | apply Kd.V_drewN | apply Kd.V_drew)); exact Kd.V_mono HO_0.out (fun _ hk => ⟨⟨hk.1, ⟨hk.2.2.1, ⟨hk.2.2.2.1, hk.2.2.2.2⟩⟩⟩, hk.2.1⟩)) hg hat); have n1_ := Aside0.mk (Kd.R_over' (by (with_reducible repeat (first | apply Kd.R_alloc | apply Kd.R_drewN | apply Kd.R_drew)); exact HO_5.out) (Kd.R_typed (by (with_reducible repeat (first | apply Kd.R_alloc | apply Kd.R_drewN | apply Kd.R_drew)); exact HO_6.out)) (by decide) hg); have n2_ := Aside0.mk (Kd.R_after (ok := (fun _ => True)) (by (with_reducible repeat (first | apply Kd.R_alloc | apply Kd.R_drewN | apply Kd.R_drew)); exact Kd.R_mono HO_350002.out (fun _ hk => ⟨trivial, hk⟩)) hg hat); have n3_ := Aside0.mk (blk_grown (g := gb349) (o := .cells #[.int .i64 t342, .int .i64 t343, .slice (some ad352) t344.length co23, .bool t347] 27 (0, 0)) (by (with_reducible repeat (first | refine blk_drewN ?_ _ | refine blk_drew ?_ | refine blk_alloc ?_ _)); exact BK349.out) hg (Kd.R_ne HO_6.out BK349.out (by decide))); have n4_ := Aside0.mk (blk_grown (g := gb362) (o := .cells #[.int .i64 t353, .int .i64 t354, .bool t355, .int .i64 t356, .string t357, .bool t358, .int .i64 t359, .string t360] 38 (0, 0)) (by (with_reducible repeat (first | refine blk_drewN ?_ _ | refine blk_drew ?_ | refine blk_alloc ?_ _)); exact BK362.out) hg (Kd.R_ne HO_6.out BK362.out (by decide))); have n5_ := Aside0.mk (hb); have n6_ := Aside0.mk (ho); clear HO_0; clear HO_5; clear HO_350002; clear BK349; clear BK362; clear HB; clear HO_6; have HO_0 := n0_; have HO_5 := n1_; have HO_350002 := n2_; have BK349 := n3_; have BK362 := n4_; have HB := n5_; have HO367 := n6_; clear n0_ n1_ n2_ n3_ n4_ n5_ n6_; clear ho hb hg hat; obtain ⟨hcz60_0, hcz60_1, hcz60_2, hcz60_3, hcz60_4, hcz60_5, hcz60_6, hcz60_7⟩ := bc8 BK362.out; obtain ⟨hfz60_0, hfz60_1, hfz60_2, hfz60_3, hfz60_4, hfz60_5, hfz60_6, hfz60_7⟩ := bf8 BK362.out; obtain ⟨hcz61_0, hcz61_1, hcz61_2, hcz61_3⟩ := bc4 BK349.out; obtain ⟨hfz61_0, hfz61_1, hfz61_2, hfz61_3⟩ := bf4 BK349.out) | ((with_reducible refine gate_builtin (b := .append) (xs := #[.tmp 81, .tmp 83]) rfl ?_); (try (refine gate_guard (by rfl) ?_; dsimp only)); at_builtin; refine Kd.R_append k38 (w0 := w) w.heap.size rfl (.tmp 81) (.tmp 83) 22 38 (.agg #[(.int .i64 0), (.int .i64 0), (.bool false), (.int .i64 0), (.string ⟨#[]⟩), (.bool false), (.int .i64 0), (.string ⟨#[]⟩)]) 80 rfl Try.underlying22 info38 rfl (by decide) (by omega) u5 x5_2 (⟨t353, t354, (⟨t355, t356, t357⟩ : S36), (⟨t358, t359, t360⟩ : S36)⟩ : S38) [.int .i64 t353, .int .i64 t354, .bool t355, .int .i64 t356, .string t357, .bool t358, .int .i64 t359, .string t360] (fun k_ => k_ ≠ gb362) (fun _ => False) rfl rfl ?aP (fun _ hk => hk.elim) ?aF ?aO ?aB ?aS ?aL ?_; (case aP => exact k38_mkM _ _ _ (⟨t353, t354, (⟨t355, t356, t357⟩ : S36), (⟨t358, t359, t360⟩ : S36)⟩ : S38)); (case aB => exact (by with_reducible repeat first | exact HB.out | apply below_alloc | apply pw_below_drewN | apply below_drew1 | refine below_set ?_ GE349.out | refine below_set ?_ GE362.out)); (case aF => exact (fun k_ hk => Kd.freshB (g := gb362) (o := .cells #[.int .i64 t353, .int .i64 t354, .bool t355, .int .i64 t356, .string t357, .bool t358, .int .i64 t359, .string t360] 38 (0, 0)) (by (with_reducible repeat (first | refine blk_drewN ?_ _ | refine blk_drew ?_ | refine blk_alloc ?_ _)); exact BK362.out) k_ hk)); (case aO => exact (by (with_reducible repeat (first | apply Kd.R_alloc | apply Kd.R_drewN | apply Kd.R_drew)); exact HO_5.out)); (case aS => exact (below_size (by with_reducible repeat first | exact HB.out | apply below_alloc | apply pw_below_drewN | apply below_drew1 | refine below_set ?_ GE349.out | refine below_set ?_ GE362.out))); (case aL => have := LMc56.out; omega); intro v369 w62 ho hb hg hat; rw [← Ny368.out] at ho; have n0_ := Aside0.mk (Kd.V_afterv (ok := (fun k_ => some k_ ≠ (.slice (some ad352) t344.length co23 : Value).ownBlock ∧ some k_ ≠ (v366 : Value).ownBlock ∧ k_ ≠ gb349 ∧ k_ ≠ gb362)) (by (with_reducible repeat (first | apply Kd.V_alloc | apply Kd.V_drewN | apply Kd.V_drew)); exact Kd.V_mono HO_0.out (fun _ hk => ⟨⟨hk.1.2.1, ⟨hk.2, ⟨hk.1.2.2.1, hk.1.2.2.2⟩⟩⟩, hk.1.1⟩)) hg hat); have n1_ := Aside0.mk (Kd.R_over' (by (with_reducible repeat (first | apply Kd.R_alloc | apply Kd.R_drewN | apply Kd.R_drew)); exact HO_350002.out) (Kd.R_typed (by (with_reducible repeat (first | apply Kd.R_alloc | apply Kd.R_drewN | apply Kd.R_drew)); exact HO_5.out)) (by decide) hg); have n2_ := Aside0.mk (blk_grown (g := gb349) (o := .cells #[.int .i64 t342, .int .i64 t343, .slice (some ad352) t344.length co23, .bool t347] 27 (0, 0)) (by (with_reducible repeat (first | refine blk_drewN ?_ _ | refine blk_drew ?_ | refine blk_alloc ?_ _)); exact BK349.out) hg (Kd.R_ne HO_5.out BK349.out (by decide))); have n3_ := Aside0.mk (blk_grown (g := gb362) (o := .cells #[.int .i64 t353, .int .i64 t354, .bool t355, .int .i64 t356, .string t357, .bool t358, .int .i64 t359, .string t360] 38 (0, 0)) (by (with_reducible repeat (first | refine blk_drewN ?_ _ | refine blk_drew ?_ | refine blk_alloc ?_ _)); exact BK362.out) hg (Kd.R_away HO_5.out (fun _ hk => hk))); have n4_ := Aside0.mk (Kd.R_over' (by (with_reducible repeat (first | apply Kd.R_alloc | apply Kd.R_drewN | apply Kd.R_drew)); exact HO367.out) (Kd.R_typed (by (with_reducible repeat (first | apply Kd.R_alloc | apply Kd.R_drewN | apply Kd.R_drew)); exact HO_5.out)) (by decide) hg); have n5_ := Aside0.mk (hb); have n6_ := Aside0.mk (ho); clear HO_0; clear HO_350002; clear BK349; clear BK362; clear HO367; clear HB; clear HO_5; have HO_0 := n0_; have HO_350002 := n1_; have BK349 := n2_; have BK362 := n3_; have HO367 := n4_; have HB := n5_; have HO370 := n6_; clear n0_ n1_ n2_ n3_ n4_ n5_ n6_; clear ho hb hg hat))
                go_roundg kj30
                case measure => have := HJ15.out; have := HK2.out; have := HJ30.out; omega
                case rel => exact ⟨(y368), (y365), (wrap64 (x7_2 + 1)), (by first | rfl | (simp; done) | (simp [*]; done)), H', ⟨by have := HJ15.out; have := HK2.out; have := HJ30.out; omega⟩, ⟨by (with_reducible repeat (first | apply Kd.V_alloc | apply Kd.V_drewN | apply Kd.V_drew)); exact Kd.V_mono HO_0.out (fun _ hk => ⟨hk.2, ⟨hk.1.2.1, ⟨hk.1.1, hk.1.2.2.1⟩⟩⟩)⟩, ⟨by (with_reducible repeat (first | apply Kd.R_alloc | apply Kd.R_drewN | apply Kd.R_drew)); exact Kd.R_mono HO370.out (fun _ hk => trivial)⟩, ⟨by (with_reducible repeat (first | apply Kd.R_alloc | apply Kd.R_drewN | apply Kd.R_drew)); exact HO367.out⟩, ⟨by (with_reducible repeat (first | apply Kd.R_alloc | apply Kd.R_drewN | apply Kd.R_drew)); exact Kd.R_mono HO_350002.out (fun _ hk => hk.2)⟩, ⟨by (with_reducible repeat (first | refine blk_drewN ?_ _ | refine blk_drew ?_ | refine blk_alloc ?_ _)); exact BK349.out⟩, ⟨by repeat (first | (with_reducible first | exact HB.out | apply below_alloc | apply pw_below_drewN | apply below_drew1 | refine below_set ?_ GE349.out | refine below_set ?_ GE362.out) | exact HB.out)⟩⟩
               ·rw [if_neg c56] at H
                exact absurd H (by simp)
              ·rw [if_neg c55] at H
               have c55b0 : (t354 == t342) = false := beq_eq_false_iff_ne.mpr c55
               have c55b1 : (t354 != t342) = true := bne_iff_ne.mpr c55
               have H' := Aside0.mk H
               clear H
               have hnb63 := NB362_349.out
               have hnc63 := NB349_362.out
               obtain ⟨hcz64_0, hcz64_1, hcz64_2, hcz64_3, hcz64_4, hcz64_5, hcz64_6, hcz64_7⟩ := bc8 BK362.out
               obtain ⟨hfz64_0, hfz64_1, hfz64_2, hfz64_3, hfz64_4, hfz64_5, hfz64_6, hfz64_7⟩ := bf8 BK362.out
               go_wp2_with (first | ((with_reducible refine gate_builtin (b := .append) (xs := #[.tmp 71, .tmp 74]) rfl ?_); (try (refine gate_guard (by rfl) ?_; dsimp only)); at_builtin; refine Kd.R_append (Kd.int .i64) (w0 := w) w.heap.size rfl (.tmp 71) (.tmp 74) 25 3 (.int .i64 0) 8 rfl Try.underlying25 info3 rfl (by decide) (by omega) u6 x6_2 t353 [.int .i64 t353] (fun k_ => some k_ ≠ (.slice (some ad352) t344.length co23 : Value).ownBlock) (fun _ => False) rfl rfl ?aP (fun _ hk => hk.elim) ?aF ?aO ?aB ?aS ?aL ?_; (case aP => exact rfl); (case aB => exact (by with_reducible repeat first | exact HB.out | apply below_alloc | apply pw_below_drewN | apply below_drew1 | refine below_set ?_ GE349.out | refine below_set ?_ GE362.out)); (case aF => exact (fun k_ hk => Kd.fresh' (Kd.R_lt (by (with_reducible repeat (first | apply Kd.R_alloc | apply Kd.R_drewN | apply Kd.R_drew)); exact HO_350002.out)) k_ hk)); (case aO => exact (by (with_reducible repeat (first | apply Kd.R_alloc | apply Kd.R_drewN | apply Kd.R_drew)); exact HO_6.out)); (case aS => exact (below_size (by with_reducible repeat first | exact HB.out | apply below_alloc | apply pw_below_drewN | apply below_drew1 | refine below_set ?_ GE349.out | refine below_set ?_ GE362.out))); (case aL => have := LMc54.out; omega); intro v366 w65 ho hb hg hat; rw [← Ny365.out] at ho; have n0_ := Aside0.mk (Kd.V_afterv (ok := (fun k_ => some k_ ≠ (u5 : Value).ownBlock ∧ some k_ ≠ (.slice (some ad352) t344.length co23 : Value).ownBlock ∧ k_ ≠ gb349 ∧ k_ ≠ gb362)) (by (with_reducible repeat (first | apply Kd.V_alloc | apply Kd.V_drewN | apply Kd.V_drew)); exact Kd.V_mono HO_0.out (fun _ hk => ⟨⟨hk.1, ⟨hk.2.2.1, ⟨hk.2.2.2.1, hk.2.2.2.2⟩⟩⟩, hk.2.1⟩)) hg hat); have n1_ := Aside0.mk (Kd.R_over' (by (with_reducible repeat (first | apply Kd.R_alloc | apply Kd.R_drewN | apply Kd.R_drew)); exact HO_5.out) (Kd.R_typed (by (with_reducible repeat (first | apply Kd.R_alloc | apply Kd.R_drewN | apply Kd.R_drew)); exact HO_6.out)) (by decide) hg); have n2_ := Aside0.mk (Kd.R_after (ok := (fun _ => True)) (by (with_reducible repeat (first | apply Kd.R_alloc | apply Kd.R_drewN | apply Kd.R_drew)); exact Kd.R_mono HO_350002.out (fun _ hk => ⟨trivial, hk⟩)) hg hat); have n3_ := Aside0.mk (blk_grown (g := gb349) (o := .cells #[.int .i64 t342, .int .i64 t343, .slice (some ad352) t344.length co23, .bool t347] 27 (0, 0)) (by (with_reducible repeat (first | refine blk_drewN ?_ _ | refine blk_drew ?_ | refine blk_alloc ?_ _)); exact BK349.out) hg (Kd.R_ne HO_6.out BK349.out (by decide))); have n4_ := Aside0.mk (blk_grown (g := gb362) (o := .cells #[.int .i64 t353, .int .i64 t354, .bool t355, .int .i64 t356, .string t357, .bool t358, .int .i64 t359, .string t360] 38 (0, 0)) (by (with_reducible repeat (first | refine blk_drewN ?_ _ | refine blk_drew ?_ | refine blk_alloc ?_ _)); exact BK362.out) hg (Kd.R_ne HO_6.out BK362.out (by decide))); have n5_ := Aside0.mk (hb); have n6_ := Aside0.mk (ho); clear HO_0; clear HO_5; clear HO_350002; clear BK349; clear BK362; clear HB; clear HO_6; have HO_0 := n0_; have HO_5 := n1_; have HO_350002 := n2_; have BK349 := n3_; have BK362 := n4_; have HB := n5_; have HO367 := n6_; clear n0_ n1_ n2_ n3_ n4_ n5_ n6_; clear ho hb hg hat; obtain ⟨hcz66_0, hcz66_1, hcz66_2, hcz66_3, hcz66_4, hcz66_5, hcz66_6, hcz66_7⟩ := bc8 BK362.out; obtain ⟨hfz66_0, hfz66_1, hfz66_2, hfz66_3, hfz66_4, hfz66_5, hfz66_6, hfz66_7⟩ := bf8 BK362.out; obtain ⟨hcz67_0, hcz67_1, hcz67_2, hcz67_3⟩ := bc4 BK349.out; obtain ⟨hfz67_0, hfz67_1, hfz67_2, hfz67_3⟩ := bf4 BK349.out))
               go_roundg kj30
               case measure => have := HJ15.out; have := HK2.out; have := HJ30.out; omega
               case rel => exact ⟨(x5_2), (y365), (wrap64 (x7_2 + 1)), (by first | rfl | (simp; done) | (simp [*]; done)), H', ⟨by have := HJ15.out; have := HK2.out; have := HJ30.out; omega⟩, ⟨by (with_reducible repeat (first | apply Kd.V_alloc | apply Kd.V_drewN | apply Kd.V_drew)); exact Kd.V_mono HO_0.out (fun _ hk => ⟨hk.1.1, ⟨hk.2, ⟨hk.1.2.1, hk.1.2.2.1⟩⟩⟩)⟩, ⟨by (with_reducible repeat (first | apply Kd.R_alloc | apply Kd.R_drewN | apply Kd.R_drew)); exact Kd.R_mono HO_5.out (fun _ hk => trivial)⟩, ⟨by (with_reducible repeat (first | apply Kd.R_alloc | apply Kd.R_drewN | apply Kd.R_drew)); exact HO367.out⟩, ⟨by (with_reducible repeat (first | apply Kd.R_alloc | apply Kd.R_drewN | apply Kd.R_drew)); exact Kd.R_mono HO_350002.out (fun _ hk => hk.2)⟩, ⟨by (with_reducible repeat (first | refine blk_drewN ?_ _ | refine blk_drew ?_ | refine blk_alloc ?_ _)); exact BK349.out⟩, ⟨by repeat (first | (with_reducible first | exact HB.out | apply below_alloc | apply pw_below_drewN | apply below_drew1 | refine below_set ?_ GE349.out | refine below_set ?_ GE362.out) | exact HB.out)⟩⟩
             ·rw [if_neg c54] at H
              exact absurd H (by simp)
         ·rw [if_neg c29] at H
          exact absurd H (by simp)
        ·rw [if_neg c28] at H
         have c28b0 : decide (x7_2 < (t344.length : Int)) = false := decide_eq_false c28
         clear c28
         have H' := Aside0.mk H
         clear H
         obtain ⟨hcz68_0, hcz68_1, hcz68_2, hcz68_3⟩ := bc4 BK349.out
         obtain ⟨hfz68_0, hfz68_1, hfz68_2, hfz68_3⟩ := bf4 BK349.out
         go_wp2
         go_loopg [10] k2 (fun kq v10 w' => ∃ (x10_3 : Int), v10 = .int .i64 x10_3 ∧ Aside0 (tithebarnlaw17_LevelsNames.l1 kq t339 x5_2 x6_2 x10_3 t342 t343 t344 t347 = some r) ∧ Aside0 (kq ≤ k2) ∧ Aside0 (Kd.V k38 38 w' w.heap.size (fun k_ => some k_ ≠ (u5 : Value).ownBlock ∧ some k_ ≠ (u6 : Value).ownBlock ∧ some k_ ≠ ((.slice Ao23 t344.length co23) : Value).ownBlock ∧ k_ ≠ gb349) (.slice Ao19 t339.length co19) t339) ∧ Aside0 (Kd.R k38 38 w' w.heap.size (fun _ => True) u5 x5_2) ∧ Aside0 (Kd.R (Kd.int .i64) 3 w' w.heap.size (fun k_ => some k_ ≠ ((.slice Ao23 t344.length co23) : Value).ownBlock) u6 x6_2) ∧ Aside0 (Kd.R (Kd.int .i64) 3 w' w.heap.size (fun k_ => some k_ ≠ (u6 : Value).ownBlock) (.slice Ao23 t344.length co23) t344) ∧ Aside0 (w'.heap[gb349]? = some (.cells #[.int .i64 t342, .int .i64 t343, (.slice Ao23 t344.length co23), .bool t347] 27 (0, 0))) ∧ Aside0 (Below w.heap.size w w'))
         case atStart => exact ⟨(0), (by first | rfl | (simp; done) | (simp [*]; done)), H', ⟨Nat.le_refl _⟩, ⟨by (with_reducible repeat (first | apply Kd.V_alloc | apply Kd.V_drewN | apply Kd.V_drew)); exact HO_0.out⟩, ⟨by (with_reducible repeat (first | apply Kd.R_alloc | apply Kd.R_drewN | apply Kd.R_drew)); exact HO_5.out⟩, ⟨by (with_reducible repeat (first | apply Kd.R_alloc | apply Kd.R_drewN | apply Kd.R_drew)); exact HO_6.out⟩, ⟨by (with_reducible repeat (first | apply Kd.R_alloc | apply Kd.R_drewN | apply Kd.R_drew)); exact HO_350002.out⟩, ⟨by (with_reducible repeat (first | refine blk_drewN ?_ _ | refine blk_drew ?_ | refine blk_alloc ?_ _)); exact BK349.out⟩, ⟨by repeat (first | (with_reducible first | exact HB.out | apply below_alloc | apply pw_below_drewN | apply below_drew1 | refine below_set ?_ GE349.out) | exact HB.out)⟩⟩
         case round =>
          clear H'
          try clear c1
          try clear c2
          try clear p2
          try clear c3
          try clear p3
          try clear q3
          try clear hx3
          try clear c4
          try clear c5
          try clear c6
          try clear p6
          try clear c7
          try clear c7b0
          try clear c7b1
          try clear c7b2
          try clear c8
          try clear c9
          try clear c10
          try clear c15
          try clear c18
          try clear c25
          try clear c27
          try clear c28
          try clear c28b0
          try clear c29
          try clear c29b0
          try clear c35
          try clear p35
          try clear q35
          try clear hx35
          try clear c37
          try clear c38
          try clear c38b0
          try clear c38b1
          try clear c40
          try clear c44
          try clear c44b0
          try clear c44b1
          try clear c46
          try clear c50
          try clear c53
          try clear c54
          try clear c55
          try clear c55b0
          try clear c55b1
          try clear c56
          try clear c57
          try clear c63
          try clear p64
          try clear hcz13_0 hcz13_1 hcz13_2 hcz13_3
          try clear hcz22_0 hcz22_1 hcz22_2 hcz22_3
          try clear hcz32_0 hcz32_1 hcz32_2 hcz32_3
          try clear hcz36_0 hcz36_1 hcz36_2 hcz36_3 hcz36_4 hcz36_5 hcz36_6 hcz36_7
          try clear hcz41_0 hcz41_1 hcz41_2 hcz41_3 hcz41_4 hcz41_5 hcz41_6 hcz41_7
          try clear hcz42_0 hcz42_1 hcz42_2 hcz42_3
          try clear hcz47_0 hcz47_1 hcz47_2 hcz47_3 hcz47_4 hcz47_5 hcz47_6 hcz47_7
          try clear hcz48_0 hcz48_1 hcz48_2 hcz48_3
          try clear hcz51_0 hcz51_1 hcz51_2 hcz51_3 hcz51_4 hcz51_5 hcz51_6 hcz51_7
          try clear hcz52_0 hcz52_1 hcz52_2 hcz52_3
          try clear hcz58_0 hcz58_1 hcz58_2 hcz58_3 hcz58_4 hcz58_5 hcz58_6 hcz58_7
          try clear hcz60_0 hcz60_1 hcz60_2 hcz60_3 hcz60_4 hcz60_5 hcz60_6 hcz60_7
          try clear hcz61_0 hcz61_1 hcz61_2 hcz61_3
          try clear hcz64_0 hcz64_1 hcz64_2 hcz64_3 hcz64_4 hcz64_5 hcz64_6 hcz64_7
          try clear hcz66_0 hcz66_1 hcz66_2 hcz66_3 hcz66_4 hcz66_5 hcz66_6 hcz66_7
          try clear hcz67_0 hcz67_1 hcz67_2 hcz67_3
          try clear hcz68_0 hcz68_1 hcz68_2 hcz68_3
          try clear hfz13_0 hfz13_1 hfz13_2 hfz13_3
          try clear hfz22_0 hfz22_1 hfz22_2 hfz22_3
          try clear hfz32_0 hfz32_1 hfz32_2 hfz32_3
          try clear hfz36_0 hfz36_1 hfz36_2 hfz36_3 hfz36_4 hfz36_5 hfz36_6 hfz36_7
          try clear hfz41_0 hfz41_1 hfz41_2 hfz41_3 hfz41_4 hfz41_5 hfz41_6 hfz41_7
          try clear hfz42_0 hfz42_1 hfz42_2 hfz42_3
          try clear hfz47_0 hfz47_1 hfz47_2 hfz47_3 hfz47_4 hfz47_5 hfz47_6 hfz47_7
          try clear hfz48_0 hfz48_1 hfz48_2 hfz48_3
          try clear hfz51_0 hfz51_1 hfz51_2 hfz51_3 hfz51_4 hfz51_5 hfz51_6 hfz51_7
          try clear hfz52_0 hfz52_1 hfz52_2 hfz52_3
          try clear hfz58_0 hfz58_1 hfz58_2 hfz58_3 hfz58_4 hfz58_5 hfz58_6 hfz58_7
          try clear hfz60_0 hfz60_1 hfz60_2 hfz60_3 hfz60_4 hfz60_5 hfz60_6 hfz60_7
          try clear hfz61_0 hfz61_1 hfz61_2 hfz61_3
          try clear hfz64_0 hfz64_1 hfz64_2 hfz64_3 hfz64_4 hfz64_5 hfz64_6 hfz64_7
          try clear hfz66_0 hfz66_1 hfz66_2 hfz66_3 hfz66_4 hfz66_5 hfz66_6 hfz66_7
          try clear hfz67_0 hfz67_1 hfz67_2 hfz67_3
          try clear hfz68_0 hfz68_1 hfz68_2 hfz68_3
          try clear hx352_0
          try clear p2
          try clear p3
          try clear p35
          try clear p352
          try clear q3
          try clear q35
          try clear q352
          obtain ⟨x10_3, rfl, HA, HK3, HO_0, HO_5, HO_6, HO_350002, BK349, HB⟩ := hrel
          cases gk with
          | zero => exact absurd HA.out (by simp [tithebarnlaw17_LevelsNames.l1])
          | succ k3 =>
           have H := HA.out
           clear HA
           simp only [tithebarnlaw17_LevelsNames.l1] at H
           by_cases c69 : x10_3 < (t339.length : Int)
           ·rw [if_pos c69] at H
            have c69b0 : decide (x10_3 < (t339.length : Int)) = true := decide_eq_true c69
            clear c69
            have H' := Aside0.mk H
            clear H
            go_wp2
            go_loopg [11] k3 (fun kq v11 w' => ∃ (x11_4 : Int), v11 = .int .i64 x11_4 ∧ Aside0 (tithebarnlaw17_LevelsNames.l2 kq t339 x5_2 x6_2 x10_3 x11_4 t342 t343 t344 t347 = some r) ∧ Aside0 (kq ≤ k3) ∧ Aside0 (Kd.V k38 38 w' w.heap.size (fun k_ => some k_ ≠ (u5 : Value).ownBlock ∧ some k_ ≠ (u6 : Value).ownBlock ∧ some k_ ≠ ((.slice Ao23 t344.length co23) : Value).ownBlock ∧ k_ ≠ gb349) (.slice Ao19 t339.length co19) t339) ∧ Aside0 (Kd.R k38 38 w' w.heap.size (fun _ => True) u5 x5_2) ∧ Aside0 (Kd.R (Kd.int .i64) 3 w' w.heap.size (fun k_ => some k_ ≠ ((.slice Ao23 t344.length co23) : Value).ownBlock) u6 x6_2) ∧ Aside0 (Kd.R (Kd.int .i64) 3 w' w.heap.size (fun k_ => some k_ ≠ (u6 : Value).ownBlock) (.slice Ao23 t344.length co23) t344) ∧ Aside0 (w'.heap[gb349]? = some (.cells #[.int .i64 t342, .int .i64 t343, (.slice Ao23 t344.length co23), .bool t347] 27 (0, 0))) ∧ Aside0 (Below w.heap.size w w'))
            case atStart => exact ⟨(0), (by first | rfl | (simp; done) | (simp [*]; done)), H', ⟨Nat.le_refl _⟩, ⟨by (with_reducible repeat (first | apply Kd.V_alloc | apply Kd.V_drewN | apply Kd.V_drew)); exact HO_0.out⟩, ⟨by (with_reducible repeat (first | apply Kd.R_alloc | apply Kd.R_drewN | apply Kd.R_drew)); exact HO_5.out⟩, ⟨by (with_reducible repeat (first | apply Kd.R_alloc | apply Kd.R_drewN | apply Kd.R_drew)); exact HO_6.out⟩, ⟨by (with_reducible repeat (first | apply Kd.R_alloc | apply Kd.R_drewN | apply Kd.R_drew)); exact HO_350002.out⟩, ⟨by (with_reducible repeat (first | refine blk_drewN ?_ _ | refine blk_drew ?_ | refine blk_alloc ?_ _)); exact BK349.out⟩, ⟨by repeat (first | (with_reducible first | exact HB.out | apply below_alloc | apply pw_below_drewN | apply below_drew1 | refine below_set ?_ GE349.out) | exact HB.out)⟩⟩
            case round =>
             clear H'
             try clear c1
             try clear c2
             try clear p2
             try clear c3
             try clear p3
             try clear q3
             try clear hx3
             try clear c4
             try clear c5
             try clear c6
             try clear p6
             try clear c7
             try clear c7b0
             try clear c7b1
             try clear c7b2
             try clear c8
             try clear c9
             try clear c10
             try clear c15
             try clear c18
             try clear c25
             try clear c27
             try clear c28
             try clear c28b0
             try clear c29
             try clear c29b0
             try clear c35
             try clear p35
             try clear q35
             try clear hx35
             try clear c37
             try clear c38
             try clear c38b0
             try clear c38b1
             try clear c40
             try clear c44
             try clear c44b0
             try clear c44b1
             try clear c46
             try clear c50
             try clear c53
             try clear c54
             try clear c55
             try clear c55b0
             try clear c55b1
             try clear c56
             try clear c57
             try clear c63
             try clear p64
             try clear c69
             try clear c69b0
             try clear hcz13_0 hcz13_1 hcz13_2 hcz13_3
             try clear hcz22_0 hcz22_1 hcz22_2 hcz22_3
             try clear hcz32_0 hcz32_1 hcz32_2 hcz32_3
             try clear hcz36_0 hcz36_1 hcz36_2 hcz36_3 hcz36_4 hcz36_5 hcz36_6 hcz36_7
             try clear hcz41_0 hcz41_1 hcz41_2 hcz41_3 hcz41_4 hcz41_5 hcz41_6 hcz41_7
             try clear hcz42_0 hcz42_1 hcz42_2 hcz42_3
             try clear hcz47_0 hcz47_1 hcz47_2 hcz47_3 hcz47_4 hcz47_5 hcz47_6 hcz47_7
             try clear hcz48_0 hcz48_1 hcz48_2 hcz48_3
             try clear hcz51_0 hcz51_1 hcz51_2 hcz51_3 hcz51_4 hcz51_5 hcz51_6 hcz51_7
             try clear hcz52_0 hcz52_1 hcz52_2 hcz52_3
             try clear hcz58_0 hcz58_1 hcz58_2 hcz58_3 hcz58_4 hcz58_5 hcz58_6 hcz58_7
             try clear hcz60_0 hcz60_1 hcz60_2 hcz60_3 hcz60_4 hcz60_5 hcz60_6 hcz60_7
             try clear hcz61_0 hcz61_1 hcz61_2 hcz61_3
             try clear hcz64_0 hcz64_1 hcz64_2 hcz64_3 hcz64_4 hcz64_5 hcz64_6 hcz64_7
             try clear hcz66_0 hcz66_1 hcz66_2 hcz66_3 hcz66_4 hcz66_5 hcz66_6 hcz66_7
             try clear hcz67_0 hcz67_1 hcz67_2 hcz67_3
             try clear hcz68_0 hcz68_1 hcz68_2 hcz68_3
             try clear hfz13_0 hfz13_1 hfz13_2 hfz13_3
             try clear hfz22_0 hfz22_1 hfz22_2 hfz22_3
             try clear hfz32_0 hfz32_1 hfz32_2 hfz32_3
             try clear hfz36_0 hfz36_1 hfz36_2 hfz36_3 hfz36_4 hfz36_5 hfz36_6 hfz36_7
             try clear hfz41_0 hfz41_1 hfz41_2 hfz41_3 hfz41_4 hfz41_5 hfz41_6 hfz41_7
             try clear hfz42_0 hfz42_1 hfz42_2 hfz42_3
             try clear hfz47_0 hfz47_1 hfz47_2 hfz47_3 hfz47_4 hfz47_5 hfz47_6 hfz47_7
             try clear hfz48_0 hfz48_1 hfz48_2 hfz48_3
             try clear hfz51_0 hfz51_1 hfz51_2 hfz51_3 hfz51_4 hfz51_5 hfz51_6 hfz51_7
             try clear hfz52_0 hfz52_1 hfz52_2 hfz52_3
             try clear hfz58_0 hfz58_1 hfz58_2 hfz58_3 hfz58_4 hfz58_5 hfz58_6 hfz58_7
             try clear hfz60_0 hfz60_1 hfz60_2 hfz60_3 hfz60_4 hfz60_5 hfz60_6 hfz60_7
             try clear hfz61_0 hfz61_1 hfz61_2 hfz61_3
             try clear hfz64_0 hfz64_1 hfz64_2 hfz64_3 hfz64_4 hfz64_5 hfz64_6 hfz64_7
             try clear hfz66_0 hfz66_1 hfz66_2 hfz66_3 hfz66_4 hfz66_5 hfz66_6 hfz66_7
             try clear hfz67_0 hfz67_1 hfz67_2 hfz67_3
             try clear hfz68_0 hfz68_1 hfz68_2 hfz68_3
             try clear hx352_0
             try clear p2
             try clear p3
             try clear p35
             try clear p352
             try clear p6
             try clear p64
             try clear q3
             try clear q35
             try clear q352
             obtain ⟨x11_4, rfl, HA, HK4, HO_0, HO_5, HO_6, HO_350002, BK349, HB⟩ := hrel
             cases gk with
             | zero => exact absurd HA.out (by simp [tithebarnlaw17_LevelsNames.l2])
             | succ k4 =>
              have H := HA.out
              clear HA
              simp only [tithebarnlaw17_LevelsNames.l2] at H
              by_cases c70 : x11_4 < (x5_2.length : Int)
              ·rw [if_pos c70] at H
               have c70b0 : decide (x11_4 < (x5_2.length : Int)) = true := decide_eq_true c70
               clear c70
               have HC71 := Aside0.mk H
               clear H
               obtain ⟨Ao72, co72, eo72⟩ := Kd.R_slice HO_5.out
               subst eo72
               go_upto_region 26 with (fail)
               go_cut [125] (fun v125 wc => ∃ (kq : Nat) (x125_70 : Bool), v125 = .bool x125_70 ∧ Aside0 (tithebarnlaw17_LevelsNames.j5 kq t339 x5_2 x6_2 x10_3 x11_4 x125_70 t342 t343 t344 t347 = some r) ∧ Aside0 (kq ≤ k4) ∧ Aside0 (Kd.V k38 38 wc w.heap.size (fun k_ => some k_ ≠ ((.slice Ao72 x5_2.length co72) : Value).ownBlock ∧ some k_ ≠ (u6 : Value).ownBlock ∧ some k_ ≠ ((.slice Ao23 t344.length co23) : Value).ownBlock ∧ k_ ≠ gb349) (.slice Ao19 t339.length co19) t339) ∧ Aside0 (Kd.R k38 38 wc w.heap.size (fun _ => True) (.slice Ao72 x5_2.length co72) x5_2) ∧ Aside0 (Kd.R (Kd.int .i64) 3 wc w.heap.size (fun k_ => some k_ ≠ ((.slice Ao23 t344.length co23) : Value).ownBlock) u6 x6_2) ∧ Aside0 (Kd.R (Kd.int .i64) 3 wc w.heap.size (fun k_ => some k_ ≠ (u6 : Value).ownBlock) (.slice Ao23 t344.length co23) t344) ∧ Aside0 (wc.heap[gb349]? = some (.cells #[.int .i64 t342, .int .i64 t343, (.slice Ao23 t344.length co23), .bool t347] 27 (0, 0))) ∧ Aside0 (Below w.heap.size w wc))
               case first =>
                have H := HC71.out
                clear HC71
                by_cases c73 : 0 ≤ x10_3
                ·rw [if_pos c73] at H
                 have c73b0 : decide (0 ≤ x10_3) = true := decide_eq_true c73
                 clear c73
                 (first | rw [c73b0] | (simp only [i64_w, i32_w]; rw [c73b0]) | skip)
                 by_cases c74 : x10_3 < (t339.length : Int)
                 ·rw [if_pos c74] at H
                  have c74b0 : decide (x10_3 < (t339.length : Int)) = true := decide_eq_true c74
                  clear c74
                  by_cases c75 : ((rd_T38 t339 x10_3).f1) = t343
                  ·rw [if_pos c75] at H
                   have c75b0 : (((rd_T38 t339 x10_3).f1) == t343) = true := beq_iff_eq.mpr c75
                   have c75b1 : (((rd_T38 t339 x10_3).f1) != t343) = false := bne_eq_false_iff_eq.mpr c75
                   clear c75
                   by_cases c76 : 0 ≤ x11_4
                   ·rw [if_pos c76] at H
                    have c76b0 : decide (0 ≤ x11_4) = true := decide_eq_true c76
                    clear c76
                    replace H := Option.bind_eq_some_iff.mp H
                    obtain ⟨t374, A770, H⟩ := H
                    replace H : (if t374 = true then ((tithebarnlaw17_has.f k4 x6_2 ((rd_T38 t339 x10_3).f0)).bind fun t376 => (tithebarnlaw17_LevelsNames.j5 k4 t339 x5_2 x6_2 x10_3 x11_4 (!t376) t342 t343 t344 t347)) else (tithebarnlaw17_LevelsNames.j5 k4 t339 x5_2 x6_2 x10_3 x11_4 false t342 t343 t344 t347)) = some r := H
                    have A77 := Aside0.mk A770
                    clear A770
                    by_cases c78 : t374 = true
                    ·subst c78
                     have H1 : ((tithebarnlaw17_has.f k4 x6_2 ((rd_T38 t339 x10_3).f0)).bind fun t376 => (tithebarnlaw17_LevelsNames.j5 k4 t339 x5_2 x6_2 x10_3 x11_4 (!t376) t342 t343 t344 t347)) = some r := by rw [if_pos rfl] at H; exact H
                     clear H
                     have H := H1
                     clear H1
                     replace H := Option.bind_eq_some_iff.mp H
                     obtain ⟨t376, A790, H⟩ := H
                     replace H : (tithebarnlaw17_LevelsNames.j5 k4 t339 x5_2 x6_2 x10_3 x11_4 (!t376) t342 t343 t344 t347) = some r := H
                     have A79 := Aside0.mk A790
                     clear A790
                     have H' := Aside0.mk H
                     clear H
                     try go_wp2
                     have n0_ := Aside0.mk (Kd.V_drew HO_0.out)
                     have n1_ := Aside0.mk (Kd.R_drew HO_5.out)
                     have n2_ := Aside0.mk (Kd.R_drew HO_6.out)
                     have n3_ := Aside0.mk (Kd.R_drew HO_350002.out)
                     have n4_ := Aside0.mk (blk_drew BK349.out)
                     have n5_ := Aside0.mk (below_drew1 HB.out)
                     clear HO_0
                     clear HO_5
                     clear HO_6
                     clear HO_350002
                     clear BK349
                     clear HB
                     have HO_0 := n0_
                     have HO_5 := n1_
                     have HO_6 := n2_
                     have HO_350002 := n3_
                     have BK349 := n4_
                     have HB := n5_
                     clear n0_ n1_ n2_ n3_ n4_ n5_
                     have p371 : 0 ≤ (x10_3 : Int) := of_decide_eq_true (by with_reducible assumption)
                     have q371 : x10_3 < (t339.length : Int) := of_decide_eq_true (by with_reducible assumption)
                     obtain ⟨ad371, e371, hx371_0, hx371_1, hx371_2, hx371_3, hx371_4, hx371_5, hx371_6, hx371_7⟩ := at_T38 (Kd.V_reads' HO_0.out).2.2 x10_3 p371 q371
                     cases e371
                     replace p371 := eq_true p371
                     replace q371 := eq_true q371
                     have p372 : 0 ≤ (x10_3 : Int) := of_decide_eq_true (by with_reducible assumption)
                     have q372 : x10_3 < (t339.length : Int) := of_decide_eq_true (by with_reducible assumption)
                     obtain ⟨ad372, e372, hx372_0, hx372_1, hx372_2, hx372_3, hx372_4, hx372_5, hx372_6, hx372_7⟩ := at_T38 (Kd.V_reads' HO_0.out).2.2 x10_3 p372 q372
                     obtain rfl : ad371 = ad372 := (by injection e372)
                     replace p372 := eq_true p372
                     replace q372 := eq_true q372
                     have p373 : 0 ≤ (x11_4 : Int) := of_decide_eq_true (by with_reducible assumption)
                     have q373 : x11_4 < (x5_2.length : Int) := of_decide_eq_true (by with_reducible assumption)
                     obtain ⟨ad373, e373, hx373_0, hx373_1, hx373_2, hx373_3, hx373_4, hx373_5, hx373_6, hx373_7⟩ := at_T38 (Kd.R_reads' HO_5.out).2.2 x11_4 p373 q373
                     cases e373
                     replace p373 := eq_true p373
                     replace q373 := eq_true q373
                     have p375 : 0 ≤ (x10_3 : Int) := of_decide_eq_true (by with_reducible assumption)
                     have q375 : x10_3 < (t339.length : Int) := of_decide_eq_true (by with_reducible assumption)
                     obtain ⟨ad375, e375, hx375_0, hx375_1, hx375_2, hx375_3, hx375_4, hx375_5, hx375_6, hx375_7⟩ := at_T38 (Kd.V_reads' HO_0.out).2.2 x10_3 p375 q375
                     obtain rfl : ad371 = ad375 := (by injection e375)
                     replace p375 := eq_true p375
                     replace q375 := eq_true q375
                     refine start_ (n := 29) (S := fun w' => w'.cell? ⟨gb349, 0, none⟩ = some (.int .i64 t342) ∧ w'.cell? ⟨gb349, 1, none⟩ = some (.int .i64 t343) ∧ w'.cell? ⟨gb349, 2, none⟩ = some (.slice Ao23 t344.length co23) ∧ w'.cell? ⟨gb349, 3, none⟩ = some (.bool t347) ∧ w'.cell? (ad371.add ((x10_3).toNat * 8)) = some (.int .i64 ((rd_T38 t339 x10_3).f0)) ∧ w'.cell? ⟨(ad371.add ((x10_3).toNat * 8)).block, (ad371.add ((x10_3).toNat * 8)).off + 1, none⟩ = some (.int .i64 ((rd_T38 t339 x10_3).f1)) ∧ w'.cell? ⟨(ad371.add ((x10_3).toNat * 8)).block, (ad371.add ((x10_3).toNat * 8)).off + 2, none⟩ = some (.bool ((rd_T38 t339 x10_3).f2.f0)) ∧ w'.cell? ⟨(ad371.add ((x10_3).toNat * 8)).block, (ad371.add ((x10_3).toNat * 8)).off + 3, none⟩ = some (.int .i64 ((rd_T38 t339 x10_3).f2.f1)) ∧ w'.cell? ⟨(ad371.add ((x10_3).toNat * 8)).block, (ad371.add ((x10_3).toNat * 8)).off + 4, none⟩ = some (.string ((rd_T38 t339 x10_3).f2.f2)) ∧ w'.cell? ⟨(ad371.add ((x10_3).toNat * 8)).block, (ad371.add ((x10_3).toNat * 8)).off + 5, none⟩ = some (.bool ((rd_T38 t339 x10_3).f3.f0)) ∧ w'.cell? ⟨(ad371.add ((x10_3).toNat * 8)).block, (ad371.add ((x10_3).toNat * 8)).off + 6, none⟩ = some (.int .i64 ((rd_T38 t339 x10_3).f3.f1)) ∧ w'.cell? ⟨(ad371.add ((x10_3).toNat * 8)).block, (ad371.add ((x10_3).toNat * 8)).off + 7, none⟩ = some (.string ((rd_T38 t339 x10_3).f3.f2)) ∧ w'.cell? (ad371.add ((x10_3).toNat * 8)) = some (.int .i64 ((rd_T38 t339 x10_3).f0)) ∧ w'.cell? ⟨(ad371.add ((x10_3).toNat * 8)).block, (ad371.add ((x10_3).toNat * 8)).off + 1, none⟩ = some (.int .i64 ((rd_T38 t339 x10_3).f1)) ∧ w'.cell? ⟨(ad371.add ((x10_3).toNat * 8)).block, (ad371.add ((x10_3).toNat * 8)).off + 2, none⟩ = some (.bool ((rd_T38 t339 x10_3).f2.f0)) ∧ w'.cell? ⟨(ad371.add ((x10_3).toNat * 8)).block, (ad371.add ((x10_3).toNat * 8)).off + 3, none⟩ = some (.int .i64 ((rd_T38 t339 x10_3).f2.f1)) ∧ w'.cell? ⟨(ad371.add ((x10_3).toNat * 8)).block, (ad371.add ((x10_3).toNat * 8)).off + 4, none⟩ = some (.string ((rd_T38 t339 x10_3).f2.f2)) ∧ w'.cell? ⟨(ad371.add ((x10_3).toNat * 8)).block, (ad371.add ((x10_3).toNat * 8)).off + 5, none⟩ = some (.bool ((rd_T38 t339 x10_3).f3.f0)) ∧ w'.cell? ⟨(ad371.add ((x10_3).toNat * 8)).block, (ad371.add ((x10_3).toNat * 8)).off + 6, none⟩ = some (.int .i64 ((rd_T38 t339 x10_3).f3.f1)) ∧ w'.cell? ⟨(ad371.add ((x10_3).toNat * 8)).block, (ad371.add ((x10_3).toNat * 8)).off + 7, none⟩ = some (.string ((rd_T38 t339 x10_3).f3.f2)) ∧ w'.cell? (ad373.add ((x11_4).toNat * 8)) = some (.int .i64 ((rd_T38 x5_2 x11_4).f0)) ∧ w'.cell? ⟨(ad373.add ((x11_4).toNat * 8)).block, (ad373.add ((x11_4).toNat * 8)).off + 1, none⟩ = some (.int .i64 ((rd_T38 x5_2 x11_4).f1)) ∧ w'.cell? ⟨(ad373.add ((x11_4).toNat * 8)).block, (ad373.add ((x11_4).toNat * 8)).off + 2, none⟩ = some (.bool ((rd_T38 x5_2 x11_4).f2.f0)) ∧ w'.cell? ⟨(ad373.add ((x11_4).toNat * 8)).block, (ad373.add ((x11_4).toNat * 8)).off + 3, none⟩ = some (.int .i64 ((rd_T38 x5_2 x11_4).f2.f1)) ∧ w'.cell? ⟨(ad373.add ((x11_4).toNat * 8)).block, (ad373.add ((x11_4).toNat * 8)).off + 4, none⟩ = some (.string ((rd_T38 x5_2 x11_4).f2.f2)) ∧ w'.cell? ⟨(ad373.add ((x11_4).toNat * 8)).block, (ad373.add ((x11_4).toNat * 8)).off + 5, none⟩ = some (.bool ((rd_T38 x5_2 x11_4).f3.f0)) ∧ w'.cell? ⟨(ad373.add ((x11_4).toNat * 8)).block, (ad373.add ((x11_4).toNat * 8)).off + 6, none⟩ = some (.int .i64 ((rd_T38 x5_2 x11_4).f3.f1)) ∧ w'.cell? ⟨(ad373.add ((x11_4).toNat * 8)).block, (ad373.add ((x11_4).toNat * 8)).off + 7, none⟩ = some (.string ((rd_T38 x5_2 x11_4).f3.f2)) ∧ w'.cell? (ad371.add ((x10_3).toNat * 8)) = some (.int .i64 ((rd_T38 t339 x10_3).f0)) ∧ w'.cell? ⟨(ad371.add ((x10_3).toNat * 8)).block, (ad371.add ((x10_3).toNat * 8)).off + 1, none⟩ = some (.int .i64 ((rd_T38 t339 x10_3).f1)) ∧ w'.cell? ⟨(ad371.add ((x10_3).toNat * 8)).block, (ad371.add ((x10_3).toNat * 8)).off + 2, none⟩ = some (.bool ((rd_T38 t339 x10_3).f2.f0)) ∧ w'.cell? ⟨(ad371.add ((x10_3).toNat * 8)).block, (ad371.add ((x10_3).toNat * 8)).off + 3, none⟩ = some (.int .i64 ((rd_T38 t339 x10_3).f2.f1)) ∧ w'.cell? ⟨(ad371.add ((x10_3).toNat * 8)).block, (ad371.add ((x10_3).toNat * 8)).off + 4, none⟩ = some (.string ((rd_T38 t339 x10_3).f2.f2)) ∧ w'.cell? ⟨(ad371.add ((x10_3).toNat * 8)).block, (ad371.add ((x10_3).toNat * 8)).off + 5, none⟩ = some (.bool ((rd_T38 t339 x10_3).f3.f0)) ∧ w'.cell? ⟨(ad371.add ((x10_3).toNat * 8)).block, (ad371.add ((x10_3).toNat * 8)).off + 6, none⟩ = some (.int .i64 ((rd_T38 t339 x10_3).f3.f1)) ∧ w'.cell? ⟨(ad371.add ((x10_3).toNat * 8)).block, (ad371.add ((x10_3).toNat * 8)).off + 7, none⟩ = some (.string ((rd_T38 t339 x10_3).f3.f2))) (ds := []) #[false, false, false, false, false, false, false, false, false, false, false, false, false, false, false, false, false, false, false, false, false, false, false, false, false, false, false, false, false] (by kernel_rfl) rfl rfl ⟨(blk_cell BK349.out 0).trans rfl, (blk_cell BK349.out 1).trans rfl, (blk_cell BK349.out 2).trans rfl, (blk_cell BK349.out 3).trans rfl, hx371_0, hx371_1, hx371_2, hx371_3, hx371_4, hx371_5, hx371_6, hx371_7, hx372_0, hx372_1, hx372_2, hx372_3, hx372_4, hx372_5, hx372_6, hx372_7, hx373_0, hx373_1, hx373_2, hx373_3, hx373_4, hx373_5, hx373_6, hx373_7, hx375_0, hx375_1, hx375_2, hx375_3, hx375_4, hx375_5, hx375_6, hx375_7⟩ (fun hHeld => ?_); refine with_tabW tithebarnlaw17_LevelsNames.tab26 tithebarnlaw17_LevelsNames.bits26 (fun HT_ HW_ => ?_)
                     generalize wr.drew = w80 at HO_0 HO_5 HO_6 HO_350002 BK349 HB hx371_0 hx371_1 hx371_2 hx371_3 hx371_4 hx371_5 hx371_6 hx371_7 hx372_0 hx372_1 hx372_2 hx372_3 hx372_4 hx372_5 hx372_6 hx372_7 hx373_0 hx373_1 hx373_2 hx373_3 hx373_4 hx373_5 hx373_6 hx373_7 hx375_0 hx375_1 hx375_2 hx375_3 hx375_4 hx375_5 hx375_6 hx375_7 hHeld ⊢
                     refine pure_ (i := 0) (N := some 97) (v := ?_) (a' := ?_) #[true, false, false, false, false, false, false, false, false, false, false, false, false, false, false, false, false, false, false, false, false, false, false, false, false, false, false, false, false] rfl rfl (any_of HT_.out (by kernel_rfl)) (fun _ _ _ h => h) (Or.inl ⟨by rfl, ?_⟩) ?_ ?_
                     rotate_left
                     ·intro w'
                      go_simp
                      with_reducible rfl
                     rotate_left
                     ·simp only [Act.put, List.setIfInBounds_toArray, List.set_cons_zero, List.set_cons_succ, i64_w, i32_w]
                      rfl
                     refine pure_ (i := 1) (N := some 98) (v := ?_) (a' := ?_) #[true, true, false, false, false, false, false, false, false, false, false, false, false, false, false, false, false, false, false, false, false, false, false, false, false, false, false, false, false] rfl rfl (any_of HT_.out (by kernel_rfl)) (fun _ _ _ h => h) (Or.inl ⟨by rfl, ?_⟩) ?_ ?_
                     rotate_left
                     ·intro w'
                      go_simp
                      with_reducible rfl
                     rotate_left
                     ·simp only [Act.put, List.setIfInBounds_toArray, List.set_cons_zero, List.set_cons_succ, i64_w, i32_w]
                      rfl
                     refine pure_ (i := 2) (N := some 99) (v := ?_) (a' := ?_) #[true, true, true, false, false, false, false, false, false, false, false, false, false, false, false, false, false, false, false, false, false, false, false, false, false, false, false, false, false] rfl rfl (any_of HT_.out (by kernel_rfl)) (fun _ _ _ h => h) (Or.inl ⟨by rfl, ?_⟩) ?_ ?_
                     rotate_left
                     ·intro w'
                      go_simp
                      with_reducible rfl
                     rotate_left
                     ·simp only [Act.put, List.setIfInBounds_toArray, List.set_cons_zero, List.set_cons_succ, i64_w, i32_w]
                      rfl
                     refine pure_ (i := 3) (N := some 100) (v := ?_) (a' := ?_) #[true, true, true, true, false, false, false, false, false, false, false, false, false, false, false, false, false, false, false, false, false, false, false, false, false, false, false, false, false] rfl rfl (any_of HT_.out (by kernel_rfl)) (fun _ _ _ h => h) (Or.inl ⟨by rfl, ?_⟩) ?_ ?_
                     rotate_left
                     ·intro w'
                      go_simp
                      with_reducible rfl
                     rotate_left
                     ·simp only [Act.put, List.setIfInBounds_toArray, List.set_cons_zero, List.set_cons_succ, i64_w, i32_w]
                      rfl
                     refine pure_ (i := 5) (N := some 102) (v := ?_) (a' := ?_) #[true, true, true, true, false, true, false, false, false, false, false, false, false, false, false, false, false, false, false, false, false, false, false, false, false, false, false, false, false] rfl rfl (any_of HT_.out (by kernel_rfl)) (fun _ _ _ h => h) (Or.inl ⟨by rfl, ?_⟩) ?_ ?_
                     rotate_left
                     ·intro w'
                      go_simp
                      with_reducible rfl
                     rotate_left
                     ·simp only [Act.put, List.setIfInBounds_toArray, List.set_cons_zero, List.set_cons_succ, i64_w, i32_w]
                      rfl
                     refine take_ (i := 4) (N := some 101) (v := ?_) (a' := ?_) #[true, true, true, true, true, true, false, false, false, false, false, false, false, false, false, false, false, false, false, false, false, false, false, false, false, false, false, false, false] rfl rfl (take_ofW HT_.out HW_.out (by kernel_rfl)) (fun _ _ _ h => h) (Or.inl ⟨by rfl, ?_⟩) hHeld ?_ ?_
                     rotate_left
                     ·rintro w' ⟨s0, s1, s2, s3, s4, s5, s6, s7, s8, s9, s10, s11, s12, s13, s14, s15, s16, s17, s18, s19, s20, s21, s22, s23, s24, s25, s26, s27, s28, s29, s30, s31, s32, s33, s34, s35⟩
                      go_simp
                      with_reducible rfl
                     rotate_left
                     ·simp only [Act.put, List.setIfInBounds_toArray, List.set_cons_zero, List.set_cons_succ, i64_w, i32_w]
                      rfl
                     refine take_ (i := 6) (N := some 103) (v := ?_) (a' := ?_) #[true, true, true, true, true, true, true, false, false, false, false, false, false, false, false, false, false, false, false, false, false, false, false, false, false, false, false, false, false] rfl rfl (take_ofW HT_.out HW_.out (by kernel_rfl)) (fun _ _ _ h => h) (Or.inl ⟨by rfl, ?_⟩) hHeld ?_ ?_
                     rotate_left
                     ·rintro w' ⟨s0, s1, s2, s3, s4, s5, s6, s7, s8, s9, s10, s11, s12, s13, s14, s15, s16, s17, s18, s19, s20, s21, s22, s23, s24, s25, s26, s27, s28, s29, s30, s31, s32, s33, s34, s35⟩
                      go_simp
                      with_reducible rfl
                     rotate_left
                     ·simp only [Act.put, List.setIfInBounds_toArray, List.set_cons_zero, List.set_cons_succ, i64_w, i32_w]
                      rfl
                     refine pure_ (i := 7) (N := some 104) (v := ?_) (a' := ?_) #[true, true, true, true, true, true, true, true, false, false, false, false, false, false, false, false, false, false, false, false, false, false, false, false, false, false, false, false, false] rfl rfl (any_of HT_.out (by kernel_rfl)) (fun _ _ _ h => h) (Or.inl ⟨by rfl, ?_⟩) ?_ ?_
                     rotate_left
                     ·intro w'
                      go_simp
                      with_reducible rfl
                     rotate_left
                     ·simp only [Act.put, List.setIfInBounds_toArray, List.set_cons_zero, List.set_cons_succ, i64_w, i32_w]
                      rfl
                     refine pure_ (i := 8) (N := some 105) (v := ?_) (a' := ?_) #[true, true, true, true, true, true, true, true, true, false, false, false, false, false, false, false, false, false, false, false, false, false, false, false, false, false, false, false, false] rfl rfl (any_of HT_.out (by kernel_rfl)) (fun _ _ _ h => h) (Or.inl ⟨by rfl, ?_⟩) ?_ ?_
                     rotate_left
                     ·intro w'
                      go_simp
                      with_reducible rfl
                     rotate_left
                     ·simp only [Act.put, List.setIfInBounds_toArray, List.set_cons_zero, List.set_cons_succ, i64_w, i32_w]
                      rfl
                     refine pure_ (i := 9) (N := some 106) (v := ?_) (a' := ?_) #[true, true, true, true, true, true, true, true, true, true, false, false, false, false, false, false, false, false, false, false, false, false, false, false, false, false, false, false, false] rfl rfl (any_of HT_.out (by kernel_rfl)) (fun _ _ _ h => h) (Or.inl ⟨by rfl, ?_⟩) ?_ ?_
                     rotate_left
                     ·intro w'
                      go_simp
                      with_reducible rfl
                     rotate_left
                     ·simp only [Act.put, List.setIfInBounds_toArray, List.set_cons_zero, List.set_cons_succ, i64_w, i32_w]
                      rfl
                     refine pure_ (i := 10) (N := some 107) (v := ?_) (a' := ?_) #[true, true, true, true, true, true, true, true, true, true, true, false, false, false, false, false, false, false, false, false, false, false, false, false, false, false, false, false, false] rfl rfl (any_of HT_.out (by kernel_rfl)) (fun _ _ _ h => h) (Or.inl ⟨by rfl, ?_⟩) ?_ ?_
                     rotate_left
                     ·intro w'
                      go_simp
                      with_reducible rfl
                     rotate_left
                     ·simp only [Act.put, List.setIfInBounds_toArray, List.set_cons_zero, List.set_cons_succ, i64_w, i32_w]
                      rfl
                     refine pure_ (i := 11) (N := some 108) (v := ?_) (a' := ?_) #[true, true, true, true, true, true, true, true, true, true, true, true, false, false, false, false, false, false, false, false, false, false, false, false, false, false, false, false, false] rfl rfl (any_of HT_.out (by kernel_rfl)) (fun _ _ _ h => h) (Or.inl ⟨by rfl, ?_⟩) ?_ ?_
                     rotate_left
                     ·intro w'
                      go_simp
                      with_reducible rfl
                     rotate_left
                     ·simp only [Act.put, List.setIfInBounds_toArray, List.set_cons_zero, List.set_cons_succ, i64_w, i32_w]
                      rfl
                     refine pure_ (i := 13) (N := some 110) (v := ?_) (a' := ?_) #[true, true, true, true, true, true, true, true, true, true, true, true, false, true, false, false, false, false, false, false, false, false, false, false, false, false, false, false, false] rfl rfl (any_of HT_.out (by kernel_rfl)) (fun _ _ _ h => h) (Or.inl ⟨by rfl, ?_⟩) ?_ ?_
                     rotate_left
                     ·intro w'
                      go_simp
                      with_reducible rfl
                     rotate_left
                     ·simp only [Act.put, List.setIfInBounds_toArray, List.set_cons_zero, List.set_cons_succ, i64_w, i32_w]
                      rfl
                     refine pure_ (i := 14) (N := some 111) (v := ?_) (a' := ?_) #[true, true, true, true, true, true, true, true, true, true, true, true, false, true, true, false, false, false, false, false, false, false, false, false, false, false, false, false, false] rfl rfl (any_of HT_.out (by kernel_rfl)) (fun _ _ _ h => h) (Or.inl ⟨by rfl, ?_⟩) ?_ ?_
                     rotate_left
                     ·intro w'
                      go_simp
                      with_reducible rfl
                     rotate_left
                     ·simp only [Act.put, List.setIfInBounds_toArray, List.set_cons_zero, List.set_cons_succ, i64_w, i32_w]
                      rfl
                     refine pure_ (i := 15) (N := some 112) (v := ?_) (a' := ?_) #[true, true, true, true, true, true, true, true, true, true, true, true, false, true, true, true, false, false, false, false, false, false, false, false, false, false, false, false, false] rfl rfl (any_of HT_.out (by kernel_rfl)) (fun _ _ _ h => h) (Or.inl ⟨by rfl, ?_⟩) ?_ ?_
                     rotate_left
                     ·intro w'
                      go_simp
                      with_reducible rfl
                     rotate_left
                     ·simp only [Act.put, List.setIfInBounds_toArray, List.set_cons_zero, List.set_cons_succ, i64_w, i32_w]
                      rfl
                     refine take_ (i := 12) (N := some 109) (v := ?_) (a' := ?_) #[true, true, true, true, true, true, true, true, true, true, true, true, true, true, true, true, false, false, false, false, false, false, false, false, false, false, false, false, false] rfl rfl (take_ofW HT_.out HW_.out (by kernel_rfl)) (fun _ _ _ h => h) (Or.inl ⟨by rfl, ?_⟩) hHeld ?_ ?_
                     rotate_left
                     ·rintro w' ⟨s0, s1, s2, s3, s4, s5, s6, s7, s8, s9, s10, s11, s12, s13, s14, s15, s16, s17, s18, s19, s20, s21, s22, s23, s24, s25, s26, s27, s28, s29, s30, s31, s32, s33, s34, s35⟩
                      go_simp
                      with_reducible rfl
                     rotate_left
                     ·simp only [Act.put, List.setIfInBounds_toArray, List.set_cons_zero, List.set_cons_succ, i64_w, i32_w]
                      rfl
                     refine take_ (i := 16) (N := some 113) (v := ?_) (a' := ?_) #[true, true, true, true, true, true, true, true, true, true, true, true, true, true, true, true, true, false, false, false, false, false, false, false, false, false, false, false, false] rfl rfl (take_ofW HT_.out HW_.out (by kernel_rfl)) (fun _ _ _ h => h) (Or.inl ⟨by rfl, ?_⟩) hHeld ?_ ?_
                     rotate_left
                     ·rintro w' ⟨s0, s1, s2, s3, s4, s5, s6, s7, s8, s9, s10, s11, s12, s13, s14, s15, s16, s17, s18, s19, s20, s21, s22, s23, s24, s25, s26, s27, s28, s29, s30, s31, s32, s33, s34, s35⟩
                      go_simp
                      with_reducible rfl
                     rotate_left
                     ·simp only [Act.put, List.setIfInBounds_toArray, List.set_cons_zero, List.set_cons_succ, i64_w, i32_w]
                      rfl
                     refine one_ (i := 17) (N := some 114) #[true, true, true, true, true, true, true, true, true, true, true, true, true, true, true, true, true, true, false, false, false, false, false, false, false, false, false, false, false] rfl rfl (one_of HT_.out (by kernel_rfl)) (by decide) (fun K hK => ?_)
                     refine goes_ Try.func20 (by kernel_rfl) rfl #[.agg #[.int .i64 ((rd_T38 t339 x10_3).f0), .int .i64 ((rd_T38 t339 x10_3).f1), .bool ((rd_T38 t339 x10_3).f2.f0), .int .i64 ((rd_T38 t339 x10_3).f2.f1), .string ((rd_T38 t339 x10_3).f2.f2), .bool ((rd_T38 t339 x10_3).f3.f0), .int .i64 ((rd_T38 t339 x10_3).f3.f1), .string ((rd_T38 t339 x10_3).f3.f2)], .agg #[.int .i64 ((rd_T38 x5_2 x11_4).f0), .int .i64 ((rd_T38 x5_2 x11_4).f1), .bool ((rd_T38 x5_2 x11_4).f2.f0), .int .i64 ((rd_T38 x5_2 x11_4).f2.f1), .string ((rd_T38 x5_2 x11_4).f2.f2), .bool ((rd_T38 x5_2 x11_4).f3.f0), .int .i64 ((rd_T38 x5_2 x11_4).f3.f1), .string ((rd_T38 x5_2 x11_4).f3.f2)]] (by rfl) rfl rfl (by (try simp only [List.map_toArray, List.map_cons, List.map_nil]); first | done | rfl | (simp only [List.length_drop, List.length_take]; rfl)) ?_
                     with_reducible refine (tithebarnref17_Overlap.calls ((rd_T38 t339 x10_3).f0) ((rd_T38 t339 x10_3).f1) ((rd_T38 t339 x10_3).f2.f0) ((rd_T38 t339 x10_3).f2.f1) ((rd_T38 t339 x10_3).f2.f2) ((rd_T38 t339 x10_3).f3.f0) ((rd_T38 t339 x10_3).f3.f1) ((rd_T38 t339 x10_3).f3.f2) ((rd_T38 x5_2 x11_4).f0) ((rd_T38 x5_2 x11_4).f1) ((rd_T38 x5_2 x11_4).f2.f0) ((rd_T38 x5_2 x11_4).f2.f1) ((rd_T38 x5_2 x11_4).f2.f2) ((rd_T38 x5_2 x11_4).f3.f0) ((rd_T38 x5_2 x11_4).f3.f1) ((rd_T38 x5_2 x11_4).f3.f2) true _ A77.out).mono ?_
                     rintro e w81 ⟨rfl, hb⟩
                     have HS4_ := (hb.cell (World.block_lt_of_cell? _ _ (hHeld.2.2.2.2.1))).trans (hHeld.2.2.2.2.1)
                     have HS5_ := (hb.cell (World.block_lt_of_cell? _ _ (hHeld.2.2.2.2.2.1))).trans (hHeld.2.2.2.2.2.1)
                     have HS6_ := (hb.cell (World.block_lt_of_cell? _ _ (hHeld.2.2.2.2.2.2.1))).trans (hHeld.2.2.2.2.2.2.1)
                     have HS7_ := (hb.cell (World.block_lt_of_cell? _ _ (hHeld.2.2.2.2.2.2.2.1))).trans (hHeld.2.2.2.2.2.2.2.1)
                     have HS8_ := (hb.cell (World.block_lt_of_cell? _ _ (hHeld.2.2.2.2.2.2.2.2.1))).trans (hHeld.2.2.2.2.2.2.2.2.1)
                     have HS9_ := (hb.cell (World.block_lt_of_cell? _ _ (hHeld.2.2.2.2.2.2.2.2.2.1))).trans (hHeld.2.2.2.2.2.2.2.2.2.1)
                     have HS10_ := (hb.cell (World.block_lt_of_cell? _ _ (hHeld.2.2.2.2.2.2.2.2.2.2.1))).trans (hHeld.2.2.2.2.2.2.2.2.2.2.1)
                     have HS11_ := (hb.cell (World.block_lt_of_cell? _ _ (hHeld.2.2.2.2.2.2.2.2.2.2.2.1))).trans (hHeld.2.2.2.2.2.2.2.2.2.2.2.1)
                     have HS12_ := (hb.cell (World.block_lt_of_cell? _ _ (hHeld.2.2.2.2.2.2.2.2.2.2.2.2.1))).trans (hHeld.2.2.2.2.2.2.2.2.2.2.2.2.1)
                     have HS13_ := (hb.cell (World.block_lt_of_cell? _ _ (hHeld.2.2.2.2.2.2.2.2.2.2.2.2.2.1))).trans (hHeld.2.2.2.2.2.2.2.2.2.2.2.2.2.1)
                     have HS14_ := (hb.cell (World.block_lt_of_cell? _ _ (hHeld.2.2.2.2.2.2.2.2.2.2.2.2.2.2.1))).trans (hHeld.2.2.2.2.2.2.2.2.2.2.2.2.2.2.1)
                     have HS15_ := (hb.cell (World.block_lt_of_cell? _ _ (hHeld.2.2.2.2.2.2.2.2.2.2.2.2.2.2.2.1))).trans (hHeld.2.2.2.2.2.2.2.2.2.2.2.2.2.2.2.1)
                     have HS16_ := (hb.cell (World.block_lt_of_cell? _ _ (hHeld.2.2.2.2.2.2.2.2.2.2.2.2.2.2.2.2.1))).trans (hHeld.2.2.2.2.2.2.2.2.2.2.2.2.2.2.2.2.1)
                     have HS17_ := (hb.cell (World.block_lt_of_cell? _ _ (hHeld.2.2.2.2.2.2.2.2.2.2.2.2.2.2.2.2.2.1))).trans (hHeld.2.2.2.2.2.2.2.2.2.2.2.2.2.2.2.2.2.1)
                     have HS18_ := (hb.cell (World.block_lt_of_cell? _ _ (hHeld.2.2.2.2.2.2.2.2.2.2.2.2.2.2.2.2.2.2.1))).trans (hHeld.2.2.2.2.2.2.2.2.2.2.2.2.2.2.2.2.2.2.1)
                     have HS19_ := (hb.cell (World.block_lt_of_cell? _ _ (hHeld.2.2.2.2.2.2.2.2.2.2.2.2.2.2.2.2.2.2.2.1))).trans (hHeld.2.2.2.2.2.2.2.2.2.2.2.2.2.2.2.2.2.2.2.1)
                     have HS20_ := (hb.cell (World.block_lt_of_cell? _ _ (hHeld.2.2.2.2.2.2.2.2.2.2.2.2.2.2.2.2.2.2.2.2.1))).trans (hHeld.2.2.2.2.2.2.2.2.2.2.2.2.2.2.2.2.2.2.2.2.1)
                     have HS21_ := (hb.cell (World.block_lt_of_cell? _ _ (hHeld.2.2.2.2.2.2.2.2.2.2.2.2.2.2.2.2.2.2.2.2.2.1))).trans (hHeld.2.2.2.2.2.2.2.2.2.2.2.2.2.2.2.2.2.2.2.2.2.1)
                     have HS22_ := (hb.cell (World.block_lt_of_cell? _ _ (hHeld.2.2.2.2.2.2.2.2.2.2.2.2.2.2.2.2.2.2.2.2.2.2.1))).trans (hHeld.2.2.2.2.2.2.2.2.2.2.2.2.2.2.2.2.2.2.2.2.2.2.1)
                     have HS23_ := (hb.cell (World.block_lt_of_cell? _ _ (hHeld.2.2.2.2.2.2.2.2.2.2.2.2.2.2.2.2.2.2.2.2.2.2.2.1))).trans (hHeld.2.2.2.2.2.2.2.2.2.2.2.2.2.2.2.2.2.2.2.2.2.2.2.1)
                     have HS24_ := (hb.cell (World.block_lt_of_cell? _ _ (hHeld.2.2.2.2.2.2.2.2.2.2.2.2.2.2.2.2.2.2.2.2.2.2.2.2.1))).trans (hHeld.2.2.2.2.2.2.2.2.2.2.2.2.2.2.2.2.2.2.2.2.2.2.2.2.1)
                     have HS25_ := (hb.cell (World.block_lt_of_cell? _ _ (hHeld.2.2.2.2.2.2.2.2.2.2.2.2.2.2.2.2.2.2.2.2.2.2.2.2.2.1))).trans (hHeld.2.2.2.2.2.2.2.2.2.2.2.2.2.2.2.2.2.2.2.2.2.2.2.2.2.1)
                     have HS26_ := (hb.cell (World.block_lt_of_cell? _ _ (hHeld.2.2.2.2.2.2.2.2.2.2.2.2.2.2.2.2.2.2.2.2.2.2.2.2.2.2.1))).trans (hHeld.2.2.2.2.2.2.2.2.2.2.2.2.2.2.2.2.2.2.2.2.2.2.2.2.2.2.1)
                     have HS27_ := (hb.cell (World.block_lt_of_cell? _ _ (hHeld.2.2.2.2.2.2.2.2.2.2.2.2.2.2.2.2.2.2.2.2.2.2.2.2.2.2.2.1))).trans (hHeld.2.2.2.2.2.2.2.2.2.2.2.2.2.2.2.2.2.2.2.2.2.2.2.2.2.2.2.1)
                     have HS28_ := (hb.cell (World.block_lt_of_cell? _ _ (hHeld.2.2.2.2.2.2.2.2.2.2.2.2.2.2.2.2.2.2.2.2.2.2.2.2.2.2.2.2.1))).trans (hHeld.2.2.2.2.2.2.2.2.2.2.2.2.2.2.2.2.2.2.2.2.2.2.2.2.2.2.2.2.1)
                     have HS29_ := (hb.cell (World.block_lt_of_cell? _ _ (hHeld.2.2.2.2.2.2.2.2.2.2.2.2.2.2.2.2.2.2.2.2.2.2.2.2.2.2.2.2.2.1))).trans (hHeld.2.2.2.2.2.2.2.2.2.2.2.2.2.2.2.2.2.2.2.2.2.2.2.2.2.2.2.2.2.1)
                     have HS30_ := (hb.cell (World.block_lt_of_cell? _ _ (hHeld.2.2.2.2.2.2.2.2.2.2.2.2.2.2.2.2.2.2.2.2.2.2.2.2.2.2.2.2.2.2.1))).trans (hHeld.2.2.2.2.2.2.2.2.2.2.2.2.2.2.2.2.2.2.2.2.2.2.2.2.2.2.2.2.2.2.1)
                     have HS31_ := (hb.cell (World.block_lt_of_cell? _ _ (hHeld.2.2.2.2.2.2.2.2.2.2.2.2.2.2.2.2.2.2.2.2.2.2.2.2.2.2.2.2.2.2.2.1))).trans (hHeld.2.2.2.2.2.2.2.2.2.2.2.2.2.2.2.2.2.2.2.2.2.2.2.2.2.2.2.2.2.2.2.1)
                     have HS32_ := (hb.cell (World.block_lt_of_cell? _ _ (hHeld.2.2.2.2.2.2.2.2.2.2.2.2.2.2.2.2.2.2.2.2.2.2.2.2.2.2.2.2.2.2.2.2.1))).trans (hHeld.2.2.2.2.2.2.2.2.2.2.2.2.2.2.2.2.2.2.2.2.2.2.2.2.2.2.2.2.2.2.2.2.1)
                     have HS33_ := (hb.cell (World.block_lt_of_cell? _ _ (hHeld.2.2.2.2.2.2.2.2.2.2.2.2.2.2.2.2.2.2.2.2.2.2.2.2.2.2.2.2.2.2.2.2.2.1))).trans (hHeld.2.2.2.2.2.2.2.2.2.2.2.2.2.2.2.2.2.2.2.2.2.2.2.2.2.2.2.2.2.2.2.2.2.1)
                     have HS34_ := (hb.cell (World.block_lt_of_cell? _ _ (hHeld.2.2.2.2.2.2.2.2.2.2.2.2.2.2.2.2.2.2.2.2.2.2.2.2.2.2.2.2.2.2.2.2.2.2.1))).trans (hHeld.2.2.2.2.2.2.2.2.2.2.2.2.2.2.2.2.2.2.2.2.2.2.2.2.2.2.2.2.2.2.2.2.2.2.1)
                     have HS35_ := (hb.cell (World.block_lt_of_cell? _ _ (hHeld.2.2.2.2.2.2.2.2.2.2.2.2.2.2.2.2.2.2.2.2.2.2.2.2.2.2.2.2.2.2.2.2.2.2.2))).trans (hHeld.2.2.2.2.2.2.2.2.2.2.2.2.2.2.2.2.2.2.2.2.2.2.2.2.2.2.2.2.2.2.2.2.2.2.2)
                     refine ⟨_, rfl, ?_⟩
                     have n0_ := Aside0.mk (Kd.V_below (by (with_reducible repeat (first | apply Kd.V_alloc | apply Kd.V_drewN | apply Kd.V_drew)); exact HO_0.out) hb)
                     have n1_ := Aside0.mk (Kd.R_below (by (with_reducible repeat (first | apply Kd.R_alloc | apply Kd.R_drewN | apply Kd.R_drew)); exact HO_5.out) hb)
                     have n2_ := Aside0.mk (Kd.R_below (by (with_reducible repeat (first | apply Kd.R_alloc | apply Kd.R_drewN | apply Kd.R_drew)); exact HO_6.out) hb)
                     have n3_ := Aside0.mk (Kd.R_below (by (with_reducible repeat (first | apply Kd.R_alloc | apply Kd.R_drewN | apply Kd.R_drew)); exact HO_350002.out) hb)
                     have n4_ := Aside0.mk (blk_below (g := gb349) (o := .cells #[.int .i64 t342, .int .i64 t343, .slice Ao23 t344.length co23, .bool t347] 27 (0, 0)) (by (with_reducible repeat (first | refine blk_drewN ?_ _ | refine blk_drew ?_ | refine blk_alloc ?_ _)); exact BK349.out) hb)
                     have n5_ := Aside0.mk (below_step (by with_reducible repeat first | exact HB.out | apply below_alloc | apply pw_below_drewN | apply below_drew1 | refine below_set ?_ GE349.out) hb)
                     clear HO_0
                     clear HO_5
                     clear HO_6
                     clear HO_350002
                     clear BK349
                     clear HB
                     have HO_0 := n0_
                     have HO_5 := n1_
                     have HO_6 := n2_
                     have HO_350002 := n3_
                     have BK349 := n4_
                     have HB := n5_
                     clear n0_ n1_ n2_ n3_ n4_ n5_
                     (try clear hb)
                     (try clear hb2)
                     (try clear hk)
                     (try clear hi)
                     obtain ⟨Ao82, co82, eo82⟩ := Kd.R_slice HO_6.out
                     (first | subst eo82 | (injection eo82 with f1_ f2_ f3_; have f4_ := f1_.symm; have f5_ := f3_.symm; clear f1_ f2_ f3_; subst f4_; subst f5_))
                     refine hK.out _ _ ⟨(blk_cell BK349.out 0).trans rfl, (blk_cell BK349.out 1).trans rfl, (blk_cell BK349.out 2).trans rfl, (blk_cell BK349.out 3).trans rfl, HS4_, HS5_, HS6_, HS7_, HS8_, HS9_, HS10_, HS11_, HS12_, HS13_, HS14_, HS15_, HS16_, HS17_, HS18_, HS19_, HS20_, HS21_, HS22_, HS23_, HS24_, HS25_, HS26_, HS27_, HS28_, HS29_, HS30_, HS31_, HS32_, HS33_, HS34_, HS35_⟩ (fun hHeld => ?_)
                     clear hK K
                     refine norm_ (a' := ?_) ?_ ?_
                     rotate_left
                     ·show Act.put _ (some 114) _ = _
                      simp only [Act.put, List.setIfInBounds_toArray, List.set_cons_zero, List.set_cons_succ, i64_w, i32_w]
                      rfl
                     refine pure_ (i := 18) (N := some 115) (v := ?_) (a' := ?_) #[true, true, true, true, true, true, true, true, true, true, true, true, true, true, true, true, true, true, true, false, false, false, false, false, false, false, false, false, false] rfl rfl (any_of HT_.out (by kernel_rfl)) (fun _ _ _ h => h) (Or.inl ⟨by rfl, ?_⟩) ?_ ?_
                     rotate_left
                     ·intro w'
                      go_simp
                      with_reducible rfl
                     rotate_left
                     ·simp only [Act.put, List.setIfInBounds_toArray, List.set_cons_zero, List.set_cons_succ, i64_w, i32_w]
                      rfl
                     refine pure_ (i := 19) (N := some 116) (v := ?_) (a' := ?_) #[true, true, true, true, true, true, true, true, true, true, true, true, true, true, true, true, true, true, true, true, false, false, false, false, false, false, false, false, false] rfl rfl (any_of HT_.out (by kernel_rfl)) (fun _ _ _ h => h) (Or.inl ⟨by rfl, ?_⟩) ?_ ?_
                     rotate_left
                     ·intro w'
                      go_simp
                      with_reducible rfl
                     rotate_left
                     ·simp only [Act.put, List.setIfInBounds_toArray, List.set_cons_zero, List.set_cons_succ, i64_w, i32_w]
                      rfl
                     refine pure_ (i := 20) (N := some 117) (v := ?_) (a' := ?_) #[true, true, true, true, true, true, true, true, true, true, true, true, true, true, true, true, true, true, true, true, true, false, false, false, false, false, false, false, false] rfl rfl (any_of HT_.out (by kernel_rfl)) (fun _ _ _ h => h) (Or.inl ⟨by rfl, ?_⟩) ?_ ?_
                     rotate_left
                     ·intro w'
                      go_simp
                      with_reducible rfl
                     rotate_left
                     ·simp only [Act.put, List.setIfInBounds_toArray, List.set_cons_zero, List.set_cons_succ, i64_w, i32_w]
                      rfl
                     refine pure_ (i := 21) (N := some 118) (v := ?_) (a' := ?_) #[true, true, true, true, true, true, true, true, true, true, true, true, true, true, true, true, true, true, true, true, true, true, false, false, false, false, false, false, false] rfl rfl (any_of HT_.out (by kernel_rfl)) (fun _ _ _ h => h) (Or.inl ⟨by rfl, ?_⟩) ?_ ?_
                     rotate_left
                     ·intro w'
                      go_simp
                      with_reducible rfl
                     rotate_left
                     ·simp only [Act.put, List.setIfInBounds_toArray, List.set_cons_zero, List.set_cons_succ, i64_w, i32_w]
                      rfl
                     refine pure_ (i := 22) (N := some 119) (v := ?_) (a' := ?_) #[true, true, true, true, true, true, true, true, true, true, true, true, true, true, true, true, true, true, true, true, true, true, true, false, false, false, false, false, false] rfl rfl (any_of HT_.out (by kernel_rfl)) (fun _ _ _ h => h) (Or.inl ⟨by rfl, ?_⟩) ?_ ?_
                     rotate_left
                     ·intro w'
                      go_simp
                      with_reducible rfl
                     rotate_left
                     ·simp only [Act.put, List.setIfInBounds_toArray, List.set_cons_zero, List.set_cons_succ, i64_w, i32_w]
                      rfl
                     refine pure_ (i := 23) (N := some 120) (v := ?_) (a' := ?_) #[true, true, true, true, true, true, true, true, true, true, true, true, true, true, true, true, true, true, true, true, true, true, true, true, false, false, false, false, false] rfl rfl (any_of HT_.out (by kernel_rfl)) (fun _ _ _ h => h) (Or.inl ⟨by rfl, ?_⟩) ?_ ?_
                     rotate_left
                     ·intro w'
                      go_simp
                      with_reducible rfl
                     rotate_left
                     ·simp only [Act.put, List.setIfInBounds_toArray, List.set_cons_zero, List.set_cons_succ, i64_w, i32_w]
                      rfl
                     refine pure_ (i := 24) (N := some 121) (v := ?_) (a' := ?_) #[true, true, true, true, true, true, true, true, true, true, true, true, true, true, true, true, true, true, true, true, true, true, true, true, true, false, false, false, false] rfl rfl (any_of HT_.out (by kernel_rfl)) (fun _ _ _ h => h) (Or.inl ⟨by rfl, ?_⟩) ?_ ?_
                     rotate_left
                     ·intro w'
                      go_simp
                      with_reducible rfl
                     rotate_left
                     ·simp only [Act.put, List.setIfInBounds_toArray, List.set_cons_zero, List.set_cons_succ, i64_w, i32_w]
                      rfl
                     refine take_ (i := 25) (N := some 122) (v := ?_) (a' := ?_) #[true, true, true, true, true, true, true, true, true, true, true, true, true, true, true, true, true, true, true, true, true, true, true, true, true, true, false, false, false] rfl rfl (take_ofW HT_.out HW_.out (by kernel_rfl)) (fun _ _ _ h => h) (Or.inl ⟨by rfl, ?_⟩) hHeld ?_ ?_
                     rotate_left
                     ·rintro w' ⟨s0, s1, s2, s3, s4, s5, s6, s7, s8, s9, s10, s11, s12, s13, s14, s15, s16, s17, s18, s19, s20, s21, s22, s23, s24, s25, s26, s27, s28, s29, s30, s31, s32, s33, s34, s35⟩
                      go_simp
                      with_reducible rfl
                     rotate_left
                     ·simp only [Act.put, List.setIfInBounds_toArray, List.set_cons_zero, List.set_cons_succ, i64_w, i32_w]
                      rfl
                     refine one_ (i := 26) (N := some 123) #[true, true, true, true, true, true, true, true, true, true, true, true, true, true, true, true, true, true, true, true, true, true, true, true, true, true, true, false, false] rfl rfl (one_of HT_.out (by kernel_rfl)) (by decide) (fun K hK => ?_)
                     refine goes_ Try.func19 (by kernel_rfl) rfl #[.slice Ao82 x6_2.length co82, .int .i64 ((rd_T38 t339 x10_3).f0)] (by rfl) rfl rfl (by (try simp only [List.map_toArray, List.map_cons, List.map_nil]); first | done | rfl | (simp only [List.length_drop, List.length_take]; rfl)) ?_
                     with_reducible refine (tithebarnlaw17_has.calls k4 _ _ x6_2 ((rd_T38 t339 x10_3).f0) t376 _ ?side1 ?side2 A79.out).mono ?_
                     (case side1 => repeat (first | exact (Kd.R_reads' HO_6.out).2.2 | (with_reducible refine Kd.C_alloc ?_ _) | (with_reducible refine Kd.C_drewN ?_ _) | (with_reducible refine Kd.C_drew ?_)))
                     (case side2 => exact (Kd.R_reads' HO_6.out).2.1)
                     rintro e w' ⟨rfl, ⟨nd, rfl⟩⟩
                     refine ⟨_, rfl, ?_⟩
                     refine hK.out _ _ ⟨(blk_cell BK349.out 0).trans rfl, (blk_cell BK349.out 1).trans rfl, (blk_cell BK349.out 2).trans rfl, (blk_cell BK349.out 3).trans rfl, hHeld.2.2.2.2.1, hHeld.2.2.2.2.2.1, hHeld.2.2.2.2.2.2.1, hHeld.2.2.2.2.2.2.2.1, hHeld.2.2.2.2.2.2.2.2.1, hHeld.2.2.2.2.2.2.2.2.2.1, hHeld.2.2.2.2.2.2.2.2.2.2.1, hHeld.2.2.2.2.2.2.2.2.2.2.2.1, hHeld.2.2.2.2.2.2.2.2.2.2.2.2.1, hHeld.2.2.2.2.2.2.2.2.2.2.2.2.2.1, hHeld.2.2.2.2.2.2.2.2.2.2.2.2.2.2.1, hHeld.2.2.2.2.2.2.2.2.2.2.2.2.2.2.2.1, hHeld.2.2.2.2.2.2.2.2.2.2.2.2.2.2.2.2.1, hHeld.2.2.2.2.2.2.2.2.2.2.2.2.2.2.2.2.2.1, hHeld.2.2.2.2.2.2.2.2.2.2.2.2.2.2.2.2.2.2.1, hHeld.2.2.2.2.2.2.2.2.2.2.2.2.2.2.2.2.2.2.2.1, hHeld.2.2.2.2.2.2.2.2.2.2.2.2.2.2.2.2.2.2.2.2.1, hHeld.2.2.2.2.2.2.2.2.2.2.2.2.2.2.2.2.2.2.2.2.2.1, hHeld.2.2.2.2.2.2.2.2.2.2.2.2.2.2.2.2.2.2.2.2.2.2.1, hHeld.2.2.2.2.2.2.2.2.2.2.2.2.2.2.2.2.2.2.2.2.2.2.2.1, hHeld.2.2.2.2.2.2.2.2.2.2.2.2.2.2.2.2.2.2.2.2.2.2.2.2.1, hHeld.2.2.2.2.2.2.2.2.2.2.2.2.2.2.2.2.2.2.2.2.2.2.2.2.2.1, hHeld.2.2.2.2.2.2.2.2.2.2.2.2.2.2.2.2.2.2.2.2.2.2.2.2.2.2.1, hHeld.2.2.2.2.2.2.2.2.2.2.2.2.2.2.2.2.2.2.2.2.2.2.2.2.2.2.2.1, hHeld.2.2.2.2.2.2.2.2.2.2.2.2.2.2.2.2.2.2.2.2.2.2.2.2.2.2.2.2.1, hHeld.2.2.2.2.2.2.2.2.2.2.2.2.2.2.2.2.2.2.2.2.2.2.2.2.2.2.2.2.2.1, hHeld.2.2.2.2.2.2.2.2.2.2.2.2.2.2.2.2.2.2.2.2.2.2.2.2.2.2.2.2.2.2.1, hHeld.2.2.2.2.2.2.2.2.2.2.2.2.2.2.2.2.2.2.2.2.2.2.2.2.2.2.2.2.2.2.2.1, hHeld.2.2.2.2.2.2.2.2.2.2.2.2.2.2.2.2.2.2.2.2.2.2.2.2.2.2.2.2.2.2.2.2.1, hHeld.2.2.2.2.2.2.2.2.2.2.2.2.2.2.2.2.2.2.2.2.2.2.2.2.2.2.2.2.2.2.2.2.2.1, hHeld.2.2.2.2.2.2.2.2.2.2.2.2.2.2.2.2.2.2.2.2.2.2.2.2.2.2.2.2.2.2.2.2.2.2.1, hHeld.2.2.2.2.2.2.2.2.2.2.2.2.2.2.2.2.2.2.2.2.2.2.2.2.2.2.2.2.2.2.2.2.2.2.2⟩ (fun hHeld => ?_)
                     clear hK K
                     refine norm_ (a' := ?_) ?_ ?_
                     rotate_left
                     ·show Act.put _ (some 123) _ = _
                      simp only [Act.put, List.setIfInBounds_toArray, List.set_cons_zero, List.set_cons_succ, i64_w, i32_w]
                      rfl
                     refine pure_ (i := 27) (N := some 124) (v := ?_) (a' := ?_) #[true, true, true, true, true, true, true, true, true, true, true, true, true, true, true, true, true, true, true, true, true, true, true, true, true, true, true, true, false] rfl rfl (any_of HT_.out (by kernel_rfl)) (fun _ _ _ h => h) (Or.inl ⟨by rfl, ?_⟩) ?_ ?_
                     rotate_left
                     ·intro w'
                      go_simp
                      with_reducible rfl
                     rotate_left
                     ·simp only [Act.put, List.setIfInBounds_toArray, List.set_cons_zero, List.set_cons_succ, i64_w, i32_w]
                      rfl
                     refine pure_ (i := 28) (N := some 125) (v := ?_) (a' := ?_) #[true, true, true, true, true, true, true, true, true, true, true, true, true, true, true, true, true, true, true, true, true, true, true, true, true, true, true, true, true] rfl rfl (any_of HT_.out (by kernel_rfl)) (fun _ _ _ h => h) (Or.inl ⟨by rfl, ?_⟩) ?_ ?_
                     rotate_left
                     ·intro w'
                      go_simp
                      with_reducible rfl
                     rotate_left
                     ·simp only [Act.put, List.setIfInBounds_toArray, List.set_cons_zero, List.set_cons_succ, i64_w, i32_w]
                      rfl
                     refine done_ (done_of HT_.out (by kernel_rfl)) ?_
                     try go_wp2
                     go_meet
                     case rel => exact ⟨_, (!t376), (by first | rfl | (simp; done) | (simp [*]; done)), H', ⟨by have := HJ15.out; have := HK2.out; have := HK3.out; have := HK4.out; first | omega | exact Nat.le_refl _⟩, ⟨by (with_reducible repeat (first | apply Kd.V_alloc | apply Kd.V_drewN | apply Kd.V_drew)); exact HO_0.out⟩, ⟨by (with_reducible repeat (first | apply Kd.R_alloc | apply Kd.R_drewN | apply Kd.R_drew)); exact HO_5.out⟩, ⟨by (with_reducible repeat (first | apply Kd.R_alloc | apply Kd.R_drewN | apply Kd.R_drew)); exact HO_6.out⟩, ⟨by (with_reducible repeat (first | apply Kd.R_alloc | apply Kd.R_drewN | apply Kd.R_drew)); exact HO_350002.out⟩, ⟨by (with_reducible repeat (first | refine blk_drewN ?_ _ | refine blk_drew ?_ | refine blk_alloc ?_ _)); exact BK349.out⟩, ⟨by repeat (first | (with_reducible first | exact HB.out | apply below_alloc | apply pw_below_drewN | apply below_drew1 | refine below_set ?_ GE349.out) | exact HB.out)⟩⟩
                    ·replace c78 := Bool.eq_false_iff.mpr c78
                     subst c78
                     have H1 : (tithebarnlaw17_LevelsNames.j5 k4 t339 x5_2 x6_2 x10_3 x11_4 false t342 t343 t344 t347) = some r := by rw [if_neg (show ¬ (false = true) by decide)] at H; exact H
                     clear H
                     have H := H1
                     clear H1
                     have H' := Aside0.mk H
                     clear H
                     try go_wp2
                     have n0_ := Aside0.mk (Kd.V_drew HO_0.out)
                     have n1_ := Aside0.mk (Kd.R_drew HO_5.out)
                     have n2_ := Aside0.mk (Kd.R_drew HO_6.out)
                     have n3_ := Aside0.mk (Kd.R_drew HO_350002.out)
                     have n4_ := Aside0.mk (blk_drew BK349.out)
                     have n5_ := Aside0.mk (below_drew1 HB.out)
                     clear HO_0
                     clear HO_5
                     clear HO_6
                     clear HO_350002
                     clear BK349
                     clear HB
                     have HO_0 := n0_
                     have HO_5 := n1_
                     have HO_6 := n2_
                     have HO_350002 := n3_
                     have BK349 := n4_
                     have HB := n5_
                     clear n0_ n1_ n2_ n3_ n4_ n5_
                     have p371 : 0 ≤ (x10_3 : Int) := of_decide_eq_true (by with_reducible assumption)
                     have q371 : x10_3 < (t339.length : Int) := of_decide_eq_true (by with_reducible assumption)
                     obtain ⟨ad371, e371, hx371_0, hx371_1, hx371_2, hx371_3, hx371_4, hx371_5, hx371_6, hx371_7⟩ := at_T38 (Kd.V_reads' HO_0.out).2.2 x10_3 p371 q371
                     cases e371
                     replace p371 := eq_true p371
                     replace q371 := eq_true q371
                     have p372 : 0 ≤ (x10_3 : Int) := of_decide_eq_true (by with_reducible assumption)
                     have q372 : x10_3 < (t339.length : Int) := of_decide_eq_true (by with_reducible assumption)
                     obtain ⟨ad372, e372, hx372_0, hx372_1, hx372_2, hx372_3, hx372_4, hx372_5, hx372_6, hx372_7⟩ := at_T38 (Kd.V_reads' HO_0.out).2.2 x10_3 p372 q372
                     obtain rfl : ad371 = ad372 := (by injection e372)
                     replace p372 := eq_true p372
                     replace q372 := eq_true q372
                     have p373 : 0 ≤ (x11_4 : Int) := of_decide_eq_true (by with_reducible assumption)
                     have q373 : x11_4 < (x5_2.length : Int) := of_decide_eq_true (by with_reducible assumption)
                     obtain ⟨ad373, e373, hx373_0, hx373_1, hx373_2, hx373_3, hx373_4, hx373_5, hx373_6, hx373_7⟩ := at_T38 (Kd.R_reads' HO_5.out).2.2 x11_4 p373 q373
                     cases e373
                     replace p373 := eq_true p373
                     replace q373 := eq_true q373
                     refine start_ (n := 29) (S := fun w' => w'.cell? ⟨gb349, 0, none⟩ = some (.int .i64 t342) ∧ w'.cell? ⟨gb349, 1, none⟩ = some (.int .i64 t343) ∧ w'.cell? ⟨gb349, 2, none⟩ = some (.slice Ao23 t344.length co23) ∧ w'.cell? ⟨gb349, 3, none⟩ = some (.bool t347) ∧ w'.cell? (ad371.add ((x10_3).toNat * 8)) = some (.int .i64 ((rd_T38 t339 x10_3).f0)) ∧ w'.cell? ⟨(ad371.add ((x10_3).toNat * 8)).block, (ad371.add ((x10_3).toNat * 8)).off + 1, none⟩ = some (.int .i64 ((rd_T38 t339 x10_3).f1)) ∧ w'.cell? ⟨(ad371.add ((x10_3).toNat * 8)).block, (ad371.add ((x10_3).toNat * 8)).off + 2, none⟩ = some (.bool ((rd_T38 t339 x10_3).f2.f0)) ∧ w'.cell? ⟨(ad371.add ((x10_3).toNat * 8)).block, (ad371.add ((x10_3).toNat * 8)).off + 3, none⟩ = some (.int .i64 ((rd_T38 t339 x10_3).f2.f1)) ∧ w'.cell? ⟨(ad371.add ((x10_3).toNat * 8)).block, (ad371.add ((x10_3).toNat * 8)).off + 4, none⟩ = some (.string ((rd_T38 t339 x10_3).f2.f2)) ∧ w'.cell? ⟨(ad371.add ((x10_3).toNat * 8)).block, (ad371.add ((x10_3).toNat * 8)).off + 5, none⟩ = some (.bool ((rd_T38 t339 x10_3).f3.f0)) ∧ w'.cell? ⟨(ad371.add ((x10_3).toNat * 8)).block, (ad371.add ((x10_3).toNat * 8)).off + 6, none⟩ = some (.int .i64 ((rd_T38 t339 x10_3).f3.f1)) ∧ w'.cell? ⟨(ad371.add ((x10_3).toNat * 8)).block, (ad371.add ((x10_3).toNat * 8)).off + 7, none⟩ = some (.string ((rd_T38 t339 x10_3).f3.f2)) ∧ w'.cell? (ad371.add ((x10_3).toNat * 8)) = some (.int .i64 ((rd_T38 t339 x10_3).f0)) ∧ w'.cell? ⟨(ad371.add ((x10_3).toNat * 8)).block, (ad371.add ((x10_3).toNat * 8)).off + 1, none⟩ = some (.int .i64 ((rd_T38 t339 x10_3).f1)) ∧ w'.cell? ⟨(ad371.add ((x10_3).toNat * 8)).block, (ad371.add ((x10_3).toNat * 8)).off + 2, none⟩ = some (.bool ((rd_T38 t339 x10_3).f2.f0)) ∧ w'.cell? ⟨(ad371.add ((x10_3).toNat * 8)).block, (ad371.add ((x10_3).toNat * 8)).off + 3, none⟩ = some (.int .i64 ((rd_T38 t339 x10_3).f2.f1)) ∧ w'.cell? ⟨(ad371.add ((x10_3).toNat * 8)).block, (ad371.add ((x10_3).toNat * 8)).off + 4, none⟩ = some (.string ((rd_T38 t339 x10_3).f2.f2)) ∧ w'.cell? ⟨(ad371.add ((x10_3).toNat * 8)).block, (ad371.add ((x10_3).toNat * 8)).off + 5, none⟩ = some (.bool ((rd_T38 t339 x10_3).f3.f0)) ∧ w'.cell? ⟨(ad371.add ((x10_3).toNat * 8)).block, (ad371.add ((x10_3).toNat * 8)).off + 6, none⟩ = some (.int .i64 ((rd_T38 t339 x10_3).f3.f1)) ∧ w'.cell? ⟨(ad371.add ((x10_3).toNat * 8)).block, (ad371.add ((x10_3).toNat * 8)).off + 7, none⟩ = some (.string ((rd_T38 t339 x10_3).f3.f2)) ∧ w'.cell? (ad373.add ((x11_4).toNat * 8)) = some (.int .i64 ((rd_T38 x5_2 x11_4).f0)) ∧ w'.cell? ⟨(ad373.add ((x11_4).toNat * 8)).block, (ad373.add ((x11_4).toNat * 8)).off + 1, none⟩ = some (.int .i64 ((rd_T38 x5_2 x11_4).f1)) ∧ w'.cell? ⟨(ad373.add ((x11_4).toNat * 8)).block, (ad373.add ((x11_4).toNat * 8)).off + 2, none⟩ = some (.bool ((rd_T38 x5_2 x11_4).f2.f0)) ∧ w'.cell? ⟨(ad373.add ((x11_4).toNat * 8)).block, (ad373.add ((x11_4).toNat * 8)).off + 3, none⟩ = some (.int .i64 ((rd_T38 x5_2 x11_4).f2.f1)) ∧ w'.cell? ⟨(ad373.add ((x11_4).toNat * 8)).block, (ad373.add ((x11_4).toNat * 8)).off + 4, none⟩ = some (.string ((rd_T38 x5_2 x11_4).f2.f2)) ∧ w'.cell? ⟨(ad373.add ((x11_4).toNat * 8)).block, (ad373.add ((x11_4).toNat * 8)).off + 5, none⟩ = some (.bool ((rd_T38 x5_2 x11_4).f3.f0)) ∧ w'.cell? ⟨(ad373.add ((x11_4).toNat * 8)).block, (ad373.add ((x11_4).toNat * 8)).off + 6, none⟩ = some (.int .i64 ((rd_T38 x5_2 x11_4).f3.f1)) ∧ w'.cell? ⟨(ad373.add ((x11_4).toNat * 8)).block, (ad373.add ((x11_4).toNat * 8)).off + 7, none⟩ = some (.string ((rd_T38 x5_2 x11_4).f3.f2))) (ds := []) #[false, false, false, false, false, false, false, false, false, false, false, false, false, false, false, false, false, false, false, false, false, false, false, false, false, false, false, false, false] (by kernel_rfl) rfl rfl ⟨(blk_cell BK349.out 0).trans rfl, (blk_cell BK349.out 1).trans rfl, (blk_cell BK349.out 2).trans rfl, (blk_cell BK349.out 3).trans rfl, hx371_0, hx371_1, hx371_2, hx371_3, hx371_4, hx371_5, hx371_6, hx371_7, hx372_0, hx372_1, hx372_2, hx372_3, hx372_4, hx372_5, hx372_6, hx372_7, hx373_0, hx373_1, hx373_2, hx373_3, hx373_4, hx373_5, hx373_6, hx373_7⟩ (fun hHeld => ?_); refine with_tabW tithebarnlaw17_LevelsNames.tab26 tithebarnlaw17_LevelsNames.bits26 (fun HT_ HW_ => ?_)
                     generalize wr.drew = w83 at HO_0 HO_5 HO_6 HO_350002 BK349 HB hx371_0 hx371_1 hx371_2 hx371_3 hx371_4 hx371_5 hx371_6 hx371_7 hx372_0 hx372_1 hx372_2 hx372_3 hx372_4 hx372_5 hx372_6 hx372_7 hx373_0 hx373_1 hx373_2 hx373_3 hx373_4 hx373_5 hx373_6 hx373_7 hHeld ⊢
                     refine pure_ (i := 0) (N := some 97) (v := ?_) (a' := ?_) #[true, false, false, false, false, false, false, false, false, false, false, false, false, false, false, false, false, false, false, false, false, false, false, false, false, false, false, false, false] rfl rfl (any_of HT_.out (by kernel_rfl)) (fun _ _ _ h => h) (Or.inl ⟨by rfl, ?_⟩) ?_ ?_
                     rotate_left
                     ·intro w'
                      go_simp
                      with_reducible rfl
                     rotate_left
                     ·simp only [Act.put, List.setIfInBounds_toArray, List.set_cons_zero, List.set_cons_succ, i64_w, i32_w]
                      rfl
                     refine pure_ (i := 1) (N := some 98) (v := ?_) (a' := ?_) #[true, true, false, false, false, false, false, false, false, false, false, false, false, false, false, false, false, false, false, false, false, false, false, false, false, false, false, false, false] rfl rfl (any_of HT_.out (by kernel_rfl)) (fun _ _ _ h => h) (Or.inl ⟨by rfl, ?_⟩) ?_ ?_
                     rotate_left
                     ·intro w'
                      go_simp
                      with_reducible rfl
                     rotate_left
                     ·simp only [Act.put, List.setIfInBounds_toArray, List.set_cons_zero, List.set_cons_succ, i64_w, i32_w]
                      rfl
                     refine pure_ (i := 2) (N := some 99) (v := ?_) (a' := ?_) #[true, true, true, false, false, false, false, false, false, false, false, false, false, false, false, false, false, false, false, false, false, false, false, false, false, false, false, false, false] rfl rfl (any_of HT_.out (by kernel_rfl)) (fun _ _ _ h => h) (Or.inl ⟨by rfl, ?_⟩) ?_ ?_
                     rotate_left
                     ·intro w'
                      go_simp
                      with_reducible rfl
                     rotate_left
                     ·simp only [Act.put, List.setIfInBounds_toArray, List.set_cons_zero, List.set_cons_succ, i64_w, i32_w]
                      rfl
                     refine pure_ (i := 3) (N := some 100) (v := ?_) (a' := ?_) #[true, true, true, true, false, false, false, false, false, false, false, false, false, false, false, false, false, false, false, false, false, false, false, false, false, false, false, false, false] rfl rfl (any_of HT_.out (by kernel_rfl)) (fun _ _ _ h => h) (Or.inl ⟨by rfl, ?_⟩) ?_ ?_
                     rotate_left
                     ·intro w'
                      go_simp
                      with_reducible rfl
                     rotate_left
                     ·simp only [Act.put, List.setIfInBounds_toArray, List.set_cons_zero, List.set_cons_succ, i64_w, i32_w]
                      rfl
                     refine pure_ (i := 5) (N := some 102) (v := ?_) (a' := ?_) #[true, true, true, true, false, true, false, false, false, false, false, false, false, false, false, false, false, false, false, false, false, false, false, false, false, false, false, false, false] rfl rfl (any_of HT_.out (by kernel_rfl)) (fun _ _ _ h => h) (Or.inl ⟨by rfl, ?_⟩) ?_ ?_
                     rotate_left
                     ·intro w'
                      go_simp
                      with_reducible rfl
                     rotate_left
                     ·simp only [Act.put, List.setIfInBounds_toArray, List.set_cons_zero, List.set_cons_succ, i64_w, i32_w]
                      rfl
                     refine take_ (i := 4) (N := some 101) (v := ?_) (a' := ?_) #[true, true, true, true, true, true, false, false, false, false, false, false, false, false, false, false, false, false, false, false, false, false, false, false, false, false, false, false, false] rfl rfl (take_ofW HT_.out HW_.out (by kernel_rfl)) (fun _ _ _ h => h) (Or.inl ⟨by rfl, ?_⟩) hHeld ?_ ?_
                     rotate_left
                     ·rintro w' ⟨s0, s1, s2, s3, s4, s5, s6, s7, s8, s9, s10, s11, s12, s13, s14, s15, s16, s17, s18, s19, s20, s21, s22, s23, s24, s25, s26, s27⟩
                      go_simp
                      with_reducible rfl
                     rotate_left
                     ·simp only [Act.put, List.setIfInBounds_toArray, List.set_cons_zero, List.set_cons_succ, i64_w, i32_w]
                      rfl
                     refine take_ (i := 6) (N := some 103) (v := ?_) (a' := ?_) #[true, true, true, true, true, true, true, false, false, false, false, false, false, false, false, false, false, false, false, false, false, false, false, false, false, false, false, false, false] rfl rfl (take_ofW HT_.out HW_.out (by kernel_rfl)) (fun _ _ _ h => h) (Or.inl ⟨by rfl, ?_⟩) hHeld ?_ ?_
                     rotate_left
                     ·rintro w' ⟨s0, s1, s2, s3, s4, s5, s6, s7, s8, s9, s10, s11, s12, s13, s14, s15, s16, s17, s18, s19, s20, s21, s22, s23, s24, s25, s26, s27⟩
                      go_simp
                      with_reducible rfl
                     rotate_left
                     ·simp only [Act.put, List.setIfInBounds_toArray, List.set_cons_zero, List.set_cons_succ, i64_w, i32_w]
                      rfl
                     refine pure_ (i := 7) (N := some 104) (v := ?_) (a' := ?_) #[true, true, true, true, true, true, true, true, false, false, false, false, false, false, false, false, false, false, false, false, false, false, false, false, false, false, false, false, false] rfl rfl (any_of HT_.out (by kernel_rfl)) (fun _ _ _ h => h) (Or.inl ⟨by rfl, ?_⟩) ?_ ?_
                     rotate_left
                     ·intro w'
                      go_simp
                      with_reducible rfl
                     rotate_left
                     ·simp only [Act.put, List.setIfInBounds_toArray, List.set_cons_zero, List.set_cons_succ, i64_w, i32_w]
                      rfl
                     refine pure_ (i := 8) (N := some 105) (v := ?_) (a' := ?_) #[true, true, true, true, true, true, true, true, true, false, false, false, false, false, false, false, false, false, false, false, false, false, false, false, false, false, false, false, false] rfl rfl (any_of HT_.out (by kernel_rfl)) (fun _ _ _ h => h) (Or.inl ⟨by rfl, ?_⟩) ?_ ?_
                     rotate_left
                     ·intro w'
                      go_simp
                      with_reducible rfl
                     rotate_left
                     ·simp only [Act.put, List.setIfInBounds_toArray, List.set_cons_zero, List.set_cons_succ, i64_w, i32_w]
                      rfl
                     refine pure_ (i := 9) (N := some 106) (v := ?_) (a' := ?_) #[true, true, true, true, true, true, true, true, true, true, false, false, false, false, false, false, false, false, false, false, false, false, false, false, false, false, false, false, false] rfl rfl (any_of HT_.out (by kernel_rfl)) (fun _ _ _ h => h) (Or.inl ⟨by rfl, ?_⟩) ?_ ?_
                     rotate_left
                     ·intro w'
                      go_simp
                      with_reducible rfl
                     rotate_left
                     ·simp only [Act.put, List.setIfInBounds_toArray, List.set_cons_zero, List.set_cons_succ, i64_w, i32_w]
                      rfl
                     refine pure_ (i := 10) (N := some 107) (v := ?_) (a' := ?_) #[true, true, true, true, true, true, true, true, true, true, true, false, false, false, false, false, false, false, false, false, false, false, false, false, false, false, false, false, false] rfl rfl (any_of HT_.out (by kernel_rfl)) (fun _ _ _ h => h) (Or.inl ⟨by rfl, ?_⟩) ?_ ?_
                     rotate_left
                     ·intro w'
                      go_simp
                      with_reducible rfl
                     rotate_left
                     ·simp only [Act.put, List.setIfInBounds_toArray, List.set_cons_zero, List.set_cons_succ, i64_w, i32_w]
                      rfl
                     refine pure_ (i := 11) (N := some 108) (v := ?_) (a' := ?_) #[true, true, true, true, true, true, true, true, true, true, true, true, false, false, false, false, false, false, false, false, false, false, false, false, false, false, false, false, false] rfl rfl (any_of HT_.out (by kernel_rfl)) (fun _ _ _ h => h) (Or.inl ⟨by rfl, ?_⟩) ?_ ?_
                     rotate_left
                     ·intro w'
                      go_simp
                      with_reducible rfl
                     rotate_left
                     ·simp only [Act.put, List.setIfInBounds_toArray, List.set_cons_zero, List.set_cons_succ, i64_w, i32_w]
                      rfl
                     refine pure_ (i := 13) (N := some 110) (v := ?_) (a' := ?_) #[true, true, true, true, true, true, true, true, true, true, true, true, false, true, false, false, false, false, false, false, false, false, false, false, false, false, false, false, false] rfl rfl (any_of HT_.out (by kernel_rfl)) (fun _ _ _ h => h) (Or.inl ⟨by rfl, ?_⟩) ?_ ?_
                     rotate_left
                     ·intro w'
                      go_simp
                      with_reducible rfl
                     rotate_left
                     ·simp only [Act.put, List.setIfInBounds_toArray, List.set_cons_zero, List.set_cons_succ, i64_w, i32_w]
                      rfl
                     refine pure_ (i := 14) (N := some 111) (v := ?_) (a' := ?_) #[true, true, true, true, true, true, true, true, true, true, true, true, false, true, true, false, false, false, false, false, false, false, false, false, false, false, false, false, false] rfl rfl (any_of HT_.out (by kernel_rfl)) (fun _ _ _ h => h) (Or.inl ⟨by rfl, ?_⟩) ?_ ?_
                     rotate_left
                     ·intro w'
                      go_simp
                      with_reducible rfl
                     rotate_left
                     ·simp only [Act.put, List.setIfInBounds_toArray, List.set_cons_zero, List.set_cons_succ, i64_w, i32_w]
                      rfl
                     refine pure_ (i := 15) (N := some 112) (v := ?_) (a' := ?_) #[true, true, true, true, true, true, true, true, true, true, true, true, false, true, true, true, false, false, false, false, false, false, false, false, false, false, false, false, false] rfl rfl (any_of HT_.out (by kernel_rfl)) (fun _ _ _ h => h) (Or.inl ⟨by rfl, ?_⟩) ?_ ?_
                     rotate_left
                     ·intro w'
                      go_simp
                      with_reducible rfl
                     rotate_left
                     ·simp only [Act.put, List.setIfInBounds_toArray, List.set_cons_zero, List.set_cons_succ, i64_w, i32_w]
                      rfl
                     refine take_ (i := 12) (N := some 109) (v := ?_) (a' := ?_) #[true, true, true, true, true, true, true, true, true, true, true, true, true, true, true, true, false, false, false, false, false, false, false, false, false, false, false, false, false] rfl rfl (take_ofW HT_.out HW_.out (by kernel_rfl)) (fun _ _ _ h => h) (Or.inl ⟨by rfl, ?_⟩) hHeld ?_ ?_
                     rotate_left
                     ·rintro w' ⟨s0, s1, s2, s3, s4, s5, s6, s7, s8, s9, s10, s11, s12, s13, s14, s15, s16, s17, s18, s19, s20, s21, s22, s23, s24, s25, s26, s27⟩
                      go_simp
                      with_reducible rfl
                     rotate_left
                     ·simp only [Act.put, List.setIfInBounds_toArray, List.set_cons_zero, List.set_cons_succ, i64_w, i32_w]
                      rfl
                     refine take_ (i := 16) (N := some 113) (v := ?_) (a' := ?_) #[true, true, true, true, true, true, true, true, true, true, true, true, true, true, true, true, true, false, false, false, false, false, false, false, false, false, false, false, false] rfl rfl (take_ofW HT_.out HW_.out (by kernel_rfl)) (fun _ _ _ h => h) (Or.inl ⟨by rfl, ?_⟩) hHeld ?_ ?_
                     rotate_left
                     ·rintro w' ⟨s0, s1, s2, s3, s4, s5, s6, s7, s8, s9, s10, s11, s12, s13, s14, s15, s16, s17, s18, s19, s20, s21, s22, s23, s24, s25, s26, s27⟩
                      go_simp
                      with_reducible rfl
                     rotate_left
                     ·simp only [Act.put, List.setIfInBounds_toArray, List.set_cons_zero, List.set_cons_succ, i64_w, i32_w]
                      rfl
                     refine one_ (i := 17) (N := some 114) #[true, true, true, true, true, true, true, true, true, true, true, true, true, true, true, true, true, true, false, false, false, false, false, false, false, false, false, false, false] rfl rfl (one_of HT_.out (by kernel_rfl)) (by decide) (fun K hK => ?_)
                     refine goes_ Try.func20 (by kernel_rfl) rfl #[.agg #[.int .i64 ((rd_T38 t339 x10_3).f0), .int .i64 ((rd_T38 t339 x10_3).f1), .bool ((rd_T38 t339 x10_3).f2.f0), .int .i64 ((rd_T38 t339 x10_3).f2.f1), .string ((rd_T38 t339 x10_3).f2.f2), .bool ((rd_T38 t339 x10_3).f3.f0), .int .i64 ((rd_T38 t339 x10_3).f3.f1), .string ((rd_T38 t339 x10_3).f3.f2)], .agg #[.int .i64 ((rd_T38 x5_2 x11_4).f0), .int .i64 ((rd_T38 x5_2 x11_4).f1), .bool ((rd_T38 x5_2 x11_4).f2.f0), .int .i64 ((rd_T38 x5_2 x11_4).f2.f1), .string ((rd_T38 x5_2 x11_4).f2.f2), .bool ((rd_T38 x5_2 x11_4).f3.f0), .int .i64 ((rd_T38 x5_2 x11_4).f3.f1), .string ((rd_T38 x5_2 x11_4).f3.f2)]] (by rfl) rfl rfl (by (try simp only [List.map_toArray, List.map_cons, List.map_nil]); first | done | rfl | (simp only [List.length_drop, List.length_take]; rfl)) ?_
                     with_reducible refine (tithebarnref17_Overlap.calls ((rd_T38 t339 x10_3).f0) ((rd_T38 t339 x10_3).f1) ((rd_T38 t339 x10_3).f2.f0) ((rd_T38 t339 x10_3).f2.f1) ((rd_T38 t339 x10_3).f2.f2) ((rd_T38 t339 x10_3).f3.f0) ((rd_T38 t339 x10_3).f3.f1) ((rd_T38 t339 x10_3).f3.f2) ((rd_T38 x5_2 x11_4).f0) ((rd_T38 x5_2 x11_4).f1) ((rd_T38 x5_2 x11_4).f2.f0) ((rd_T38 x5_2 x11_4).f2.f1) ((rd_T38 x5_2 x11_4).f2.f2) ((rd_T38 x5_2 x11_4).f3.f0) ((rd_T38 x5_2 x11_4).f3.f1) ((rd_T38 x5_2 x11_4).f3.f2) false _ A77.out).mono ?_
                     rintro e w84 ⟨rfl, hb⟩
                     have HS4_ := (hb.cell (World.block_lt_of_cell? _ _ (hHeld.2.2.2.2.1))).trans (hHeld.2.2.2.2.1)
                     have HS5_ := (hb.cell (World.block_lt_of_cell? _ _ (hHeld.2.2.2.2.2.1))).trans (hHeld.2.2.2.2.2.1)
                     have HS6_ := (hb.cell (World.block_lt_of_cell? _ _ (hHeld.2.2.2.2.2.2.1))).trans (hHeld.2.2.2.2.2.2.1)
                     have HS7_ := (hb.cell (World.block_lt_of_cell? _ _ (hHeld.2.2.2.2.2.2.2.1))).trans (hHeld.2.2.2.2.2.2.2.1)
                     have HS8_ := (hb.cell (World.block_lt_of_cell? _ _ (hHeld.2.2.2.2.2.2.2.2.1))).trans (hHeld.2.2.2.2.2.2.2.2.1)
                     have HS9_ := (hb.cell (World.block_lt_of_cell? _ _ (hHeld.2.2.2.2.2.2.2.2.2.1))).trans (hHeld.2.2.2.2.2.2.2.2.2.1)
                     have HS10_ := (hb.cell (World.block_lt_of_cell? _ _ (hHeld.2.2.2.2.2.2.2.2.2.2.1))).trans (hHeld.2.2.2.2.2.2.2.2.2.2.1)
                     have HS11_ := (hb.cell (World.block_lt_of_cell? _ _ (hHeld.2.2.2.2.2.2.2.2.2.2.2.1))).trans (hHeld.2.2.2.2.2.2.2.2.2.2.2.1)
                     have HS12_ := (hb.cell (World.block_lt_of_cell? _ _ (hHeld.2.2.2.2.2.2.2.2.2.2.2.2.1))).trans (hHeld.2.2.2.2.2.2.2.2.2.2.2.2.1)
                     have HS13_ := (hb.cell (World.block_lt_of_cell? _ _ (hHeld.2.2.2.2.2.2.2.2.2.2.2.2.2.1))).trans (hHeld.2.2.2.2.2.2.2.2.2.2.2.2.2.1)
                     have HS14_ := (hb.cell (World.block_lt_of_cell? _ _ (hHeld.2.2.2.2.2.2.2.2.2.2.2.2.2.2.1))).trans (hHeld.2.2.2.2.2.2.2.2.2.2.2.2.2.2.1)
                     have HS15_ := (hb.cell (World.block_lt_of_cell? _ _ (hHeld.2.2.2.2.2.2.2.2.2.2.2.2.2.2.2.1))).trans (hHeld.2.2.2.2.2.2.2.2.2.2.2.2.2.2.2.1)
                     have HS16_ := (hb.cell (World.block_lt_of_cell? _ _ (hHeld.2.2.2.2.2.2.2.2.2.2.2.2.2.2.2.2.1))).trans (hHeld.2.2.2.2.2.2.2.2.2.2.2.2.2.2.2.2.1)
                     have HS17_ := (hb.cell (World.block_lt_of_cell? _ _ (hHeld.2.2.2.2.2.2.2.2.2.2.2.2.2.2.2.2.2.1))).trans (hHeld.2.2.2.2.2.2.2.2.2.2.2.2.2.2.2.2.2.1)
                     have HS18_ := (hb.cell (World.block_lt_of_cell? _ _ (hHeld.2.2.2.2.2.2.2.2.2.2.2.2.2.2.2.2.2.2.1))).trans (hHeld.2.2.2.2.2.2.2.2.2.2.2.2.2.2.2.2.2.2.1)
                     have HS19_ := (hb.cell (World.block_lt_of_cell? _ _ (hHeld.2.2.2.2.2.2.2.2.2.2.2.2.2.2.2.2.2.2.2.1))).trans (hHeld.2.2.2.2.2.2.2.2.2.2.2.2.2.2.2.2.2.2.2.1)
                     have HS20_ := (hb.cell (World.block_lt_of_cell? _ _ (hHeld.2.2.2.2.2.2.2.2.2.2.2.2.2.2.2.2.2.2.2.2.1))).trans (hHeld.2.2.2.2.2.2.2.2.2.2.2.2.2.2.2.2.2.2.2.2.1)
                     have HS21_ := (hb.cell (World.block_lt_of_cell? _ _ (hHeld.2.2.2.2.2.2.2.2.2.2.2.2.2.2.2.2.2.2.2.2.2.1))).trans (hHeld.2.2.2.2.2.2.2.2.2.2.2.2.2.2.2.2.2.2.2.2.2.1)
                     have HS22_ := (hb.cell (World.block_lt_of_cell? _ _ (hHeld.2.2.2.2.2.2.2.2.2.2.2.2.2.2.2.2.2.2.2.2.2.2.1))).trans (hHeld.2.2.2.2.2.2.2.2.2.2.2.2.2.2.2.2.2.2.2.2.2.2.1)
                     have HS23_ := (hb.cell (World.block_lt_of_cell? _ _ (hHeld.2.2.2.2.2.2.2.2.2.2.2.2.2.2.2.2.2.2.2.2.2.2.2.1))).trans (hHeld.2.2.2.2.2.2.2.2.2.2.2.2.2.2.2.2.2.2.2.2.2.2.2.1)
                     have HS24_ := (hb.cell (World.block_lt_of_cell? _ _ (hHeld.2.2.2.2.2.2.2.2.2.2.2.2.2.2.2.2.2.2.2.2.2.2.2.2.1))).trans (hHeld.2.2.2.2.2.2.2.2.2.2.2.2.2.2.2.2.2.2.2.2.2.2.2.2.1)
                     have HS25_ := (hb.cell (World.block_lt_of_cell? _ _ (hHeld.2.2.2.2.2.2.2.2.2.2.2.2.2.2.2.2.2.2.2.2.2.2.2.2.2.1))).trans (hHeld.2.2.2.2.2.2.2.2.2.2.2.2.2.2.2.2.2.2.2.2.2.2.2.2.2.1)
                     have HS26_ := (hb.cell (World.block_lt_of_cell? _ _ (hHeld.2.2.2.2.2.2.2.2.2.2.2.2.2.2.2.2.2.2.2.2.2.2.2.2.2.2.1))).trans (hHeld.2.2.2.2.2.2.2.2.2.2.2.2.2.2.2.2.2.2.2.2.2.2.2.2.2.2.1)
                     have HS27_ := (hb.cell (World.block_lt_of_cell? _ _ (hHeld.2.2.2.2.2.2.2.2.2.2.2.2.2.2.2.2.2.2.2.2.2.2.2.2.2.2.2))).trans (hHeld.2.2.2.2.2.2.2.2.2.2.2.2.2.2.2.2.2.2.2.2.2.2.2.2.2.2.2)
                     refine ⟨_, rfl, ?_⟩
                     have n0_ := Aside0.mk (Kd.V_below (by (with_reducible repeat (first | apply Kd.V_alloc | apply Kd.V_drewN | apply Kd.V_drew)); exact HO_0.out) hb)
                     have n1_ := Aside0.mk (Kd.R_below (by (with_reducible repeat (first | apply Kd.R_alloc | apply Kd.R_drewN | apply Kd.R_drew)); exact HO_5.out) hb)
                     have n2_ := Aside0.mk (Kd.R_below (by (with_reducible repeat (first | apply Kd.R_alloc | apply Kd.R_drewN | apply Kd.R_drew)); exact HO_6.out) hb)
                     have n3_ := Aside0.mk (Kd.R_below (by (with_reducible repeat (first | apply Kd.R_alloc | apply Kd.R_drewN | apply Kd.R_drew)); exact HO_350002.out) hb)
                     have n4_ := Aside0.mk (blk_below (g := gb349) (o := .cells #[.int .i64 t342, .int .i64 t343, .slice Ao23 t344.length co23, .bool t347] 27 (0, 0)) (by (with_reducible repeat (first | refine blk_drewN ?_ _ | refine blk_drew ?_ | refine blk_alloc ?_ _)); exact BK349.out) hb)
                     have n5_ := Aside0.mk (below_step (by with_reducible repeat first | exact HB.out | apply below_alloc | apply pw_below_drewN | apply below_drew1 | refine below_set ?_ GE349.out) hb)
                     clear HO_0
                     clear HO_5
                     clear HO_6
                     clear HO_350002
                     clear BK349
                     clear HB
                     have HO_0 := n0_
                     have HO_5 := n1_
                     have HO_6 := n2_
                     have HO_350002 := n3_
                     have BK349 := n4_
                     have HB := n5_
                     clear n0_ n1_ n2_ n3_ n4_ n5_
                     (try clear hb)
                     (try clear hb2)
                     (try clear hk)
                     (try clear hi)
                     refine hK.out _ _ ⟨(blk_cell BK349.out 0).trans rfl, (blk_cell BK349.out 1).trans rfl, (blk_cell BK349.out 2).trans rfl, (blk_cell BK349.out 3).trans rfl, HS4_, HS5_, HS6_, HS7_, HS8_, HS9_, HS10_, HS11_, HS12_, HS13_, HS14_, HS15_, HS16_, HS17_, HS18_, HS19_, HS20_, HS21_, HS22_, HS23_, HS24_, HS25_, HS26_, HS27_⟩ (fun hHeld => ?_)
                     clear hK K
                     refine norm_ (a' := ?_) ?_ ?_
                     rotate_left
                     ·show Act.put _ (some 114) _ = _
                      simp only [Act.put, List.setIfInBounds_toArray, List.set_cons_zero, List.set_cons_succ, i64_w, i32_w]
                      rfl
                     refine pure_ (i := 18) (N := some 115) (v := ?_) (a' := ?_) #[true, true, true, true, true, true, true, true, true, true, true, true, true, true, true, true, true, true, true, false, false, false, false, false, false, false, false, false, false] rfl rfl (any_of HT_.out (by kernel_rfl)) (fun _ _ _ h => h) (Or.inl ⟨by rfl, ?_⟩) ?_ ?_
                     rotate_left
                     ·intro w'
                      go_simp
                      with_reducible rfl
                     rotate_left
                     ·simp only [Act.put, List.setIfInBounds_toArray, List.set_cons_zero, List.set_cons_succ, i64_w, i32_w]
                      rfl
                     refine pure_ (i := 19) (N := some 116) (v := ?_) (a' := ?_) #[true, true, true, true, true, true, true, true, true, true, true, true, true, true, true, true, true, true, true, true, false, false, false, false, false, false, false, false, false] rfl rfl (any_of HT_.out (by kernel_rfl)) (fun _ _ _ h => h) (Or.inl ⟨by rfl, ?_⟩) ?_ ?_
                     rotate_left
                     ·intro w'
                      go_simp
                      with_reducible rfl
                     rotate_left
                     ·simp only [Act.put, List.setIfInBounds_toArray, List.set_cons_zero, List.set_cons_succ, i64_w, i32_w]
                      rfl
                     refine pure_ (i := 20) (N := some 117) (v := undef) (a' := ?_) #[true, true, true, true, true, true, true, true, true, true, true, true, true, true, true, true, true, true, true, true, true, false, false, false, false, false, false, false, false] rfl rfl (any_of HT_.out (by kernel_rfl)) (fun _ _ _ h => h) (Or.inr ⟨by rfl, rfl⟩) ?_ ?_
                     rotate_left
                     ·simp only [Act.put, List.setIfInBounds_toArray, List.set_cons_zero, List.set_cons_succ, i64_w, i32_w]
                      rfl
                     refine pure_ (i := 21) (N := some 118) (v := undef) (a' := ?_) #[true, true, true, true, true, true, true, true, true, true, true, true, true, true, true, true, true, true, true, true, true, true, false, false, false, false, false, false, false] rfl rfl (any_of HT_.out (by kernel_rfl)) (fun _ _ _ h => h) (Or.inr ⟨by rfl, rfl⟩) ?_ ?_
                     rotate_left
                     ·simp only [Act.put, List.setIfInBounds_toArray, List.set_cons_zero, List.set_cons_succ, i64_w, i32_w]
                      rfl
                     refine pure_ (i := 22) (N := some 119) (v := undef) (a' := ?_) #[true, true, true, true, true, true, true, true, true, true, true, true, true, true, true, true, true, true, true, true, true, true, true, false, false, false, false, false, false] rfl rfl (any_of HT_.out (by kernel_rfl)) (fun _ _ _ h => h) (Or.inr ⟨by rfl, rfl⟩) ?_ ?_
                     rotate_left
                     ·simp only [Act.put, List.setIfInBounds_toArray, List.set_cons_zero, List.set_cons_succ, i64_w, i32_w]
                      rfl
                     refine pure_ (i := 23) (N := some 120) (v := undef) (a' := ?_) #[true, true, true, true, true, true, true, true, true, true, true, true, true, true, true, true, true, true, true, true, true, true, true, true, false, false, false, false, false] rfl rfl (any_of HT_.out (by kernel_rfl)) (fun _ _ _ h => h) (Or.inr ⟨by rfl, rfl⟩) ?_ ?_
                     rotate_left
                     ·simp only [Act.put, List.setIfInBounds_toArray, List.set_cons_zero, List.set_cons_succ, i64_w, i32_w]
                      rfl
                     refine pure_ (i := 24) (N := some 121) (v := undef) (a' := ?_) #[true, true, true, true, true, true, true, true, true, true, true, true, true, true, true, true, true, true, true, true, true, true, true, true, true, false, false, false, false] rfl rfl (any_of HT_.out (by kernel_rfl)) (fun _ _ _ h => h) (Or.inr ⟨by rfl, rfl⟩) ?_ ?_
                     rotate_left
                     ·simp only [Act.put, List.setIfInBounds_toArray, List.set_cons_zero, List.set_cons_succ, i64_w, i32_w]
                      rfl
                     refine pure_ (i := 25) (N := some 122) (v := undef) (a' := ?_) #[true, true, true, true, true, true, true, true, true, true, true, true, true, true, true, true, true, true, true, true, true, true, true, true, true, true, false, false, false] rfl rfl (any_of HT_.out (by kernel_rfl)) (fun _ _ _ h => h) (Or.inr ⟨by rfl, rfl⟩) ?_ ?_
                     rotate_left
                     ·simp only [Act.put, List.setIfInBounds_toArray, List.set_cons_zero, List.set_cons_succ, i64_w, i32_w]
                      rfl
                     refine pure_ (i := 26) (N := some 123) (v := undef) (a' := ?_) #[true, true, true, true, true, true, true, true, true, true, true, true, true, true, true, true, true, true, true, true, true, true, true, true, true, true, true, false, false] rfl rfl (any_of HT_.out (by kernel_rfl)) (fun _ _ _ h => h) (Or.inr ⟨by rfl, rfl⟩) ?_ ?_
                     rotate_left
                     ·simp only [Act.put, List.setIfInBounds_toArray, List.set_cons_zero, List.set_cons_succ, i64_w, i32_w]
                      rfl
                     refine pure_ (i := 27) (N := some 124) (v := undef) (a' := ?_) #[true, true, true, true, true, true, true, true, true, true, true, true, true, true, true, true, true, true, true, true, true, true, true, true, true, true, true, true, false] rfl rfl (any_of HT_.out (by kernel_rfl)) (fun _ _ _ h => h) (Or.inr ⟨by rfl, rfl⟩) ?_ ?_
                     rotate_left
                     ·simp only [Act.put, List.setIfInBounds_toArray, List.set_cons_zero, List.set_cons_succ, i64_w, i32_w]
                      rfl
                     refine pure_ (i := 28) (N := some 125) (v := ?_) (a' := ?_) #[true, true, true, true, true, true, true, true, true, true, true, true, true, true, true, true, true, true, true, true, true, true, true, true, true, true, true, true, true] rfl rfl (any_of HT_.out (by kernel_rfl)) (fun _ _ _ h => h) (Or.inl ⟨by rfl, ?_⟩) ?_ ?_
                     rotate_left
                     ·intro w'
                      go_simp
                      with_reducible rfl
                     rotate_left
                     ·simp only [Act.put, List.setIfInBounds_toArray, List.set_cons_zero, List.set_cons_succ, i64_w, i32_w]
                      rfl
                     refine done_ (done_of HT_.out (by kernel_rfl)) ?_
                     try go_wp2
                     go_meet
                     case rel => exact ⟨_, (false), (by first | rfl | (simp; done) | (simp [*]; done)), H', ⟨by have := HJ15.out; have := HK2.out; have := HK3.out; have := HK4.out; first | omega | exact Nat.le_refl _⟩, ⟨by (with_reducible repeat (first | apply Kd.V_alloc | apply Kd.V_drewN | apply Kd.V_drew)); exact HO_0.out⟩, ⟨by (with_reducible repeat (first | apply Kd.R_alloc | apply Kd.R_drewN | apply Kd.R_drew)); exact HO_5.out⟩, ⟨by (with_reducible repeat (first | apply Kd.R_alloc | apply Kd.R_drewN | apply Kd.R_drew)); exact HO_6.out⟩, ⟨by (with_reducible repeat (first | apply Kd.R_alloc | apply Kd.R_drewN | apply Kd.R_drew)); exact HO_350002.out⟩, ⟨by (with_reducible repeat (first | refine blk_drewN ?_ _ | refine blk_drew ?_ | refine blk_alloc ?_ _)); exact BK349.out⟩, ⟨by repeat (first | (with_reducible first | exact HB.out | apply below_alloc | apply pw_below_drewN | apply below_drew1 | refine below_set ?_ GE349.out) | exact HB.out)⟩⟩
                   ·rw [if_neg c76] at H
                    exact absurd H (by simp)
                  ·rw [if_neg c75] at H
                   have c75b0 : (((rd_T38 t339 x10_3).f1) == t343) = false := beq_eq_false_iff_ne.mpr c75
                   have c75b1 : (((rd_T38 t339 x10_3).f1) != t343) = true := bne_iff_ne.mpr c75
                   have H' := Aside0.mk H
                   clear H
                   try go_wp2
                   have n0_ := Aside0.mk (Kd.V_drew HO_0.out)
                   have n1_ := Aside0.mk (Kd.R_drew HO_5.out)
                   have n2_ := Aside0.mk (Kd.R_drew HO_6.out)
                   have n3_ := Aside0.mk (Kd.R_drew HO_350002.out)
                   have n4_ := Aside0.mk (blk_drew BK349.out)
                   have n5_ := Aside0.mk (below_drew1 HB.out)
                   clear HO_0
                   clear HO_5
                   clear HO_6
                   clear HO_350002
                   clear BK349
                   clear HB
                   have HO_0 := n0_
                   have HO_5 := n1_
                   have HO_6 := n2_
                   have HO_350002 := n3_
                   have BK349 := n4_
                   have HB := n5_
                   clear n0_ n1_ n2_ n3_ n4_ n5_
                   have p371 : 0 ≤ (x10_3 : Int) := of_decide_eq_true (by with_reducible assumption)
                   have q371 : x10_3 < (t339.length : Int) := of_decide_eq_true (by with_reducible assumption)
                   obtain ⟨ad371, e371, hx371_0, hx371_1, hx371_2, hx371_3, hx371_4, hx371_5, hx371_6, hx371_7⟩ := at_T38 (Kd.V_reads' HO_0.out).2.2 x10_3 p371 q371
                   cases e371
                   replace p371 := eq_true p371
                   replace q371 := eq_true q371
                   refine start_ (n := 29) (S := fun w' => w'.cell? ⟨gb349, 0, none⟩ = some (.int .i64 t342) ∧ w'.cell? ⟨gb349, 1, none⟩ = some (.int .i64 t343) ∧ w'.cell? ⟨gb349, 2, none⟩ = some (.slice Ao23 t344.length co23) ∧ w'.cell? ⟨gb349, 3, none⟩ = some (.bool t347) ∧ w'.cell? (ad371.add ((x10_3).toNat * 8)) = some (.int .i64 ((rd_T38 t339 x10_3).f0)) ∧ w'.cell? ⟨(ad371.add ((x10_3).toNat * 8)).block, (ad371.add ((x10_3).toNat * 8)).off + 1, none⟩ = some (.int .i64 ((rd_T38 t339 x10_3).f1)) ∧ w'.cell? ⟨(ad371.add ((x10_3).toNat * 8)).block, (ad371.add ((x10_3).toNat * 8)).off + 2, none⟩ = some (.bool ((rd_T38 t339 x10_3).f2.f0)) ∧ w'.cell? ⟨(ad371.add ((x10_3).toNat * 8)).block, (ad371.add ((x10_3).toNat * 8)).off + 3, none⟩ = some (.int .i64 ((rd_T38 t339 x10_3).f2.f1)) ∧ w'.cell? ⟨(ad371.add ((x10_3).toNat * 8)).block, (ad371.add ((x10_3).toNat * 8)).off + 4, none⟩ = some (.string ((rd_T38 t339 x10_3).f2.f2)) ∧ w'.cell? ⟨(ad371.add ((x10_3).toNat * 8)).block, (ad371.add ((x10_3).toNat * 8)).off + 5, none⟩ = some (.bool ((rd_T38 t339 x10_3).f3.f0)) ∧ w'.cell? ⟨(ad371.add ((x10_3).toNat * 8)).block, (ad371.add ((x10_3).toNat * 8)).off + 6, none⟩ = some (.int .i64 ((rd_T38 t339 x10_3).f3.f1)) ∧ w'.cell? ⟨(ad371.add ((x10_3).toNat * 8)).block, (ad371.add ((x10_3).toNat * 8)).off + 7, none⟩ = some (.string ((rd_T38 t339 x10_3).f3.f2))) (ds := []) #[false, false, false, false, false, false, false, false, false, false, false, false, false, false, false, false, false, false, false, false, false, false, false, false, false, false, false, false, false] (by kernel_rfl) rfl rfl ⟨(blk_cell BK349.out 0).trans rfl, (blk_cell BK349.out 1).trans rfl, (blk_cell BK349.out 2).trans rfl, (blk_cell BK349.out 3).trans rfl, hx371_0, hx371_1, hx371_2, hx371_3, hx371_4, hx371_5, hx371_6, hx371_7⟩ (fun hHeld => ?_); refine with_tabW tithebarnlaw17_LevelsNames.tab26 tithebarnlaw17_LevelsNames.bits26 (fun HT_ HW_ => ?_)
                   generalize wr.drew = w85 at HO_0 HO_5 HO_6 HO_350002 BK349 HB hx371_0 hx371_1 hx371_2 hx371_3 hx371_4 hx371_5 hx371_6 hx371_7 hHeld ⊢
                   refine pure_ (i := 0) (N := some 97) (v := ?_) (a' := ?_) #[true, false, false, false, false, false, false, false, false, false, false, false, false, false, false, false, false, false, false, false, false, false, false, false, false, false, false, false, false] rfl rfl (any_of HT_.out (by kernel_rfl)) (fun _ _ _ h => h) (Or.inl ⟨by rfl, ?_⟩) ?_ ?_
                   rotate_left
                   ·intro w'
                    go_simp
                    with_reducible rfl
                   rotate_left
                   ·simp only [Act.put, List.setIfInBounds_toArray, List.set_cons_zero, List.set_cons_succ, i64_w, i32_w]
                    rfl
                   refine pure_ (i := 1) (N := some 98) (v := ?_) (a' := ?_) #[true, true, false, false, false, false, false, false, false, false, false, false, false, false, false, false, false, false, false, false, false, false, false, false, false, false, false, false, false] rfl rfl (any_of HT_.out (by kernel_rfl)) (fun _ _ _ h => h) (Or.inl ⟨by rfl, ?_⟩) ?_ ?_
                   rotate_left
                   ·intro w'
                    go_simp
                    with_reducible rfl
                   rotate_left
                   ·simp only [Act.put, List.setIfInBounds_toArray, List.set_cons_zero, List.set_cons_succ, i64_w, i32_w]
                    rfl
                   refine pure_ (i := 2) (N := some 99) (v := ?_) (a' := ?_) #[true, true, true, false, false, false, false, false, false, false, false, false, false, false, false, false, false, false, false, false, false, false, false, false, false, false, false, false, false] rfl rfl (any_of HT_.out (by kernel_rfl)) (fun _ _ _ h => h) (Or.inl ⟨by rfl, ?_⟩) ?_ ?_
                   rotate_left
                   ·intro w'
                    go_simp
                    with_reducible rfl
                   rotate_left
                   ·simp only [Act.put, List.setIfInBounds_toArray, List.set_cons_zero, List.set_cons_succ, i64_w, i32_w]
                    rfl
                   refine pure_ (i := 3) (N := some 100) (v := ?_) (a' := ?_) #[true, true, true, true, false, false, false, false, false, false, false, false, false, false, false, false, false, false, false, false, false, false, false, false, false, false, false, false, false] rfl rfl (any_of HT_.out (by kernel_rfl)) (fun _ _ _ h => h) (Or.inl ⟨by rfl, ?_⟩) ?_ ?_
                   rotate_left
                   ·intro w'
                    go_simp
                    with_reducible rfl
                   rotate_left
                   ·simp only [Act.put, List.setIfInBounds_toArray, List.set_cons_zero, List.set_cons_succ, i64_w, i32_w]
                    rfl
                   refine pure_ (i := 5) (N := some 102) (v := ?_) (a' := ?_) #[true, true, true, true, false, true, false, false, false, false, false, false, false, false, false, false, false, false, false, false, false, false, false, false, false, false, false, false, false] rfl rfl (any_of HT_.out (by kernel_rfl)) (fun _ _ _ h => h) (Or.inl ⟨by rfl, ?_⟩) ?_ ?_
                   rotate_left
                   ·intro w'
                    go_simp
                    with_reducible rfl
                   rotate_left
                   ·simp only [Act.put, List.setIfInBounds_toArray, List.set_cons_zero, List.set_cons_succ, i64_w, i32_w]
                    rfl
                   refine take_ (i := 4) (N := some 101) (v := ?_) (a' := ?_) #[true, true, true, true, true, true, false, false, false, false, false, false, false, false, false, false, false, false, false, false, false, false, false, false, false, false, false, false, false] rfl rfl (take_ofW HT_.out HW_.out (by kernel_rfl)) (fun _ _ _ h => h) (Or.inl ⟨by rfl, ?_⟩) hHeld ?_ ?_
                   rotate_left
                   ·rintro w' ⟨s0, s1, s2, s3, s4, s5, s6, s7, s8, s9, s10, s11⟩
                    go_simp
                    with_reducible rfl
                   rotate_left
                   ·simp only [Act.put, List.setIfInBounds_toArray, List.set_cons_zero, List.set_cons_succ, i64_w, i32_w]
                    rfl
                   refine take_ (i := 6) (N := some 103) (v := ?_) (a' := ?_) #[true, true, true, true, true, true, true, false, false, false, false, false, false, false, false, false, false, false, false, false, false, false, false, false, false, false, false, false, false] rfl rfl (take_ofW HT_.out HW_.out (by kernel_rfl)) (fun _ _ _ h => h) (Or.inl ⟨by rfl, ?_⟩) hHeld ?_ ?_
                   rotate_left
                   ·rintro w' ⟨s0, s1, s2, s3, s4, s5, s6, s7, s8, s9, s10, s11⟩
                    go_simp
                    with_reducible rfl
                   rotate_left
                   ·simp only [Act.put, List.setIfInBounds_toArray, List.set_cons_zero, List.set_cons_succ, i64_w, i32_w]
                    rfl
                   refine pure_ (i := 7) (N := some 104) (v := ?_) (a' := ?_) #[true, true, true, true, true, true, true, true, false, false, false, false, false, false, false, false, false, false, false, false, false, false, false, false, false, false, false, false, false] rfl rfl (any_of HT_.out (by kernel_rfl)) (fun _ _ _ h => h) (Or.inl ⟨by rfl, ?_⟩) ?_ ?_
                   rotate_left
                   ·intro w'
                    go_simp
                    with_reducible rfl
                   rotate_left
                   ·simp only [Act.put, List.setIfInBounds_toArray, List.set_cons_zero, List.set_cons_succ, i64_w, i32_w]
                    rfl
                   refine pure_ (i := 8) (N := some 105) (v := ?_) (a' := ?_) #[true, true, true, true, true, true, true, true, true, false, false, false, false, false, false, false, false, false, false, false, false, false, false, false, false, false, false, false, false] rfl rfl (any_of HT_.out (by kernel_rfl)) (fun _ _ _ h => h) (Or.inl ⟨by rfl, ?_⟩) ?_ ?_
                   rotate_left
                   ·intro w'
                    go_simp
                    with_reducible rfl
                   rotate_left
                   ·simp only [Act.put, List.setIfInBounds_toArray, List.set_cons_zero, List.set_cons_succ, i64_w, i32_w]
                    rfl
                   refine pure_ (i := 9) (N := some 106) (v := undef) (a' := ?_) #[true, true, true, true, true, true, true, true, true, true, false, false, false, false, false, false, false, false, false, false, false, false, false, false, false, false, false, false, false] rfl rfl (any_of HT_.out (by kernel_rfl)) (fun _ _ _ h => h) (Or.inr ⟨by rfl, rfl⟩) ?_ ?_
                   rotate_left
                   ·simp only [Act.put, List.setIfInBounds_toArray, List.set_cons_zero, List.set_cons_succ, i64_w, i32_w]
                    rfl
                   refine pure_ (i := 10) (N := some 107) (v := undef) (a' := ?_) #[true, true, true, true, true, true, true, true, true, true, true, false, false, false, false, false, false, false, false, false, false, false, false, false, false, false, false, false, false] rfl rfl (any_of HT_.out (by kernel_rfl)) (fun _ _ _ h => h) (Or.inr ⟨by rfl, rfl⟩) ?_ ?_
                   rotate_left
                   ·simp only [Act.put, List.setIfInBounds_toArray, List.set_cons_zero, List.set_cons_succ, i64_w, i32_w]
                    rfl
                   refine pure_ (i := 11) (N := some 108) (v := undef) (a' := ?_) #[true, true, true, true, true, true, true, true, true, true, true, true, false, false, false, false, false, false, false, false, false, false, false, false, false, false, false, false, false] rfl rfl (any_of HT_.out (by kernel_rfl)) (fun _ _ _ h => h) (Or.inr ⟨by rfl, rfl⟩) ?_ ?_
                   rotate_left
                   ·simp only [Act.put, List.setIfInBounds_toArray, List.set_cons_zero, List.set_cons_succ, i64_w, i32_w]
                    rfl
                   refine pure_ (i := 12) (N := some 109) (v := undef) (a' := ?_) #[true, true, true, true, true, true, true, true, true, true, true, true, true, false, false, false, false, false, false, false, false, false, false, false, false, false, false, false, false] rfl rfl (any_of HT_.out (by kernel_rfl)) (fun _ _ _ h => h) (Or.inr ⟨by rfl, rfl⟩) ?_ ?_
                   rotate_left
                   ·simp only [Act.put, List.setIfInBounds_toArray, List.set_cons_zero, List.set_cons_succ, i64_w, i32_w]
                    rfl
                   refine pure_ (i := 13) (N := some 110) (v := undef) (a' := ?_) #[true, true, true, true, true, true, true, true, true, true, true, true, true, true, false, false, false, false, false, false, false, false, false, false, false, false, false, false, false] rfl rfl (any_of HT_.out (by kernel_rfl)) (fun _ _ _ h => h) (Or.inr ⟨by rfl, rfl⟩) ?_ ?_
                   rotate_left
                   ·simp only [Act.put, List.setIfInBounds_toArray, List.set_cons_zero, List.set_cons_succ, i64_w, i32_w]
                    rfl
                   refine pure_ (i := 14) (N := some 111) (v := undef) (a' := ?_) #[true, true, true, true, true, true, true, true, true, true, true, true, true, true, true, false, false, false, false, false, false, false, false, false, false, false, false, false, false] rfl rfl (any_of HT_.out (by kernel_rfl)) (fun _ _ _ h => h) (Or.inr ⟨by rfl, rfl⟩) ?_ ?_
                   rotate_left
                   ·simp only [Act.put, List.setIfInBounds_toArray, List.set_cons_zero, List.set_cons_succ, i64_w, i32_w]
                    rfl
                   refine pure_ (i := 15) (N := some 112) (v := undef) (a' := ?_) #[true, true, true, true, true, true, true, true, true, true, true, true, true, true, true, true, false, false, false, false, false, false, false, false, false, false, false, false, false] rfl rfl (any_of HT_.out (by kernel_rfl)) (fun _ _ _ h => h) (Or.inr ⟨by rfl, rfl⟩) ?_ ?_
                   rotate_left
                   ·simp only [Act.put, List.setIfInBounds_toArray, List.set_cons_zero, List.set_cons_succ, i64_w, i32_w]
                    rfl
                   refine pure_ (i := 16) (N := some 113) (v := undef) (a' := ?_) #[true, true, true, true, true, true, true, true, true, true, true, true, true, true, true, true, true, false, false, false, false, false, false, false, false, false, false, false, false] rfl rfl (any_of HT_.out (by kernel_rfl)) (fun _ _ _ h => h) (Or.inr ⟨by rfl, rfl⟩) ?_ ?_
                   rotate_left
                   ·simp only [Act.put, List.setIfInBounds_toArray, List.set_cons_zero, List.set_cons_succ, i64_w, i32_w]
                    rfl
                   refine pure_ (i := 17) (N := some 114) (v := undef) (a' := ?_) #[true, true, true, true, true, true, true, true, true, true, true, true, true, true, true, true, true, true, false, false, false, false, false, false, false, false, false, false, false] rfl rfl (any_of HT_.out (by kernel_rfl)) (fun _ _ _ h => h) (Or.inr ⟨by rfl, rfl⟩) ?_ ?_
                   rotate_left
                   ·simp only [Act.put, List.setIfInBounds_toArray, List.set_cons_zero, List.set_cons_succ, i64_w, i32_w]
                    rfl
                   refine pure_ (i := 18) (N := some 115) (v := ?_) (a' := ?_) #[true, true, true, true, true, true, true, true, true, true, true, true, true, true, true, true, true, true, true, false, false, false, false, false, false, false, false, false, false] rfl rfl (any_of HT_.out (by kernel_rfl)) (fun _ _ _ h => h) (Or.inl ⟨by rfl, ?_⟩) ?_ ?_
                   rotate_left
                   ·intro w'
                    go_simp
                    with_reducible rfl
                   rotate_left
                   ·simp only [Act.put, List.setIfInBounds_toArray, List.set_cons_zero, List.set_cons_succ, i64_w, i32_w]
                    rfl
                   refine pure_ (i := 19) (N := some 116) (v := ?_) (a' := ?_) #[true, true, true, true, true, true, true, true, true, true, true, true, true, true, true, true, true, true, true, true, false, false, false, false, false, false, false, false, false] rfl rfl (any_of HT_.out (by kernel_rfl)) (fun _ _ _ h => h) (Or.inl ⟨by rfl, ?_⟩) ?_ ?_
                   rotate_left
                   ·intro w'
                    go_simp
                    with_reducible rfl
                   rotate_left
                   ·simp only [Act.put, List.setIfInBounds_toArray, List.set_cons_zero, List.set_cons_succ, i64_w, i32_w]
                    rfl
                   refine pure_ (i := 20) (N := some 117) (v := undef) (a' := ?_) #[true, true, true, true, true, true, true, true, true, true, true, true, true, true, true, true, true, true, true, true, true, false, false, false, false, false, false, false, false] rfl rfl (any_of HT_.out (by kernel_rfl)) (fun _ _ _ h => h) (Or.inr ⟨by rfl, rfl⟩) ?_ ?_
                   rotate_left
                   ·simp only [Act.put, List.setIfInBounds_toArray, List.set_cons_zero, List.set_cons_succ, i64_w, i32_w]
                    rfl
                   refine pure_ (i := 21) (N := some 118) (v := undef) (a' := ?_) #[true, true, true, true, true, true, true, true, true, true, true, true, true, true, true, true, true, true, true, true, true, true, false, false, false, false, false, false, false] rfl rfl (any_of HT_.out (by kernel_rfl)) (fun _ _ _ h => h) (Or.inr ⟨by rfl, rfl⟩) ?_ ?_
                   rotate_left
                   ·simp only [Act.put, List.setIfInBounds_toArray, List.set_cons_zero, List.set_cons_succ, i64_w, i32_w]
                    rfl
                   refine pure_ (i := 22) (N := some 119) (v := undef) (a' := ?_) #[true, true, true, true, true, true, true, true, true, true, true, true, true, true, true, true, true, true, true, true, true, true, true, false, false, false, false, false, false] rfl rfl (any_of HT_.out (by kernel_rfl)) (fun _ _ _ h => h) (Or.inr ⟨by rfl, rfl⟩) ?_ ?_
                   rotate_left
                   ·simp only [Act.put, List.setIfInBounds_toArray, List.set_cons_zero, List.set_cons_succ, i64_w, i32_w]
                    rfl
                   refine pure_ (i := 23) (N := some 120) (v := undef) (a' := ?_) #[true, true, true, true, true, true, true, true, true, true, true, true, true, true, true, true, true, true, true, true, true, true, true, true, false, false, false, false, false] rfl rfl (any_of HT_.out (by kernel_rfl)) (fun _ _ _ h => h) (Or.inr ⟨by rfl, rfl⟩) ?_ ?_
                   rotate_left
                   ·simp only [Act.put, List.setIfInBounds_toArray, List.set_cons_zero, List.set_cons_succ, i64_w, i32_w]
                    rfl
                   refine pure_ (i := 24) (N := some 121) (v := undef) (a' := ?_) #[true, true, true, true, true, true, true, true, true, true, true, true, true, true, true, true, true, true, true, true, true, true, true, true, true, false, false, false, false] rfl rfl (any_of HT_.out (by kernel_rfl)) (fun _ _ _ h => h) (Or.inr ⟨by rfl, rfl⟩) ?_ ?_
                   rotate_left
                   ·simp only [Act.put, List.setIfInBounds_toArray, List.set_cons_zero, List.set_cons_succ, i64_w, i32_w]
                    rfl
                   refine pure_ (i := 25) (N := some 122) (v := undef) (a' := ?_) #[true, true, true, true, true, true, true, true, true, true, true, true, true, true, true, true, true, true, true, true, true, true, true, true, true, true, false, false, false] rfl rfl (any_of HT_.out (by kernel_rfl)) (fun _ _ _ h => h) (Or.inr ⟨by rfl, rfl⟩) ?_ ?_
                   rotate_left
                   ·simp only [Act.put, List.setIfInBounds_toArray, List.set_cons_zero, List.set_cons_succ, i64_w, i32_w]
                    rfl
                   refine pure_ (i := 26) (N := some 123) (v := undef) (a' := ?_) #[true, true, true, true, true, true, true, true, true, true, true, true, true, true, true, true, true, true, true, true, true, true, true, true, true, true, true, false, false] rfl rfl (any_of HT_.out (by kernel_rfl)) (fun _ _ _ h => h) (Or.inr ⟨by rfl, rfl⟩) ?_ ?_
                   rotate_left
                   ·simp only [Act.put, List.setIfInBounds_toArray, List.set_cons_zero, List.set_cons_succ, i64_w, i32_w]
                    rfl
                   refine pure_ (i := 27) (N := some 124) (v := undef) (a' := ?_) #[true, true, true, true, true, true, true, true, true, true, true, true, true, true, true, true, true, true, true, true, true, true, true, true, true, true, true, true, false] rfl rfl (any_of HT_.out (by kernel_rfl)) (fun _ _ _ h => h) (Or.inr ⟨by rfl, rfl⟩) ?_ ?_
                   rotate_left
                   ·simp only [Act.put, List.setIfInBounds_toArray, List.set_cons_zero, List.set_cons_succ, i64_w, i32_w]
                    rfl
                   refine pure_ (i := 28) (N := some 125) (v := ?_) (a' := ?_) #[true, true, true, true, true, true, true, true, true, true, true, true, true, true, true, true, true, true, true, true, true, true, true, true, true, true, true, true, true] rfl rfl (any_of HT_.out (by kernel_rfl)) (fun _ _ _ h => h) (Or.inl ⟨by rfl, ?_⟩) ?_ ?_
                   rotate_left
                   ·intro w'
                    go_simp
                    with_reducible rfl
                   rotate_left
                   ·simp only [Act.put, List.setIfInBounds_toArray, List.set_cons_zero, List.set_cons_succ, i64_w, i32_w]
                    rfl
                   refine done_ (done_of HT_.out (by kernel_rfl)) ?_
                   try go_wp2
                   go_meet
                   case rel => exact ⟨_, (false), (by first | rfl | (simp; done) | (simp [*]; done)), H', ⟨by have := HJ15.out; have := HK2.out; have := HK3.out; have := HK4.out; first | omega | exact Nat.le_refl _⟩, ⟨by (with_reducible repeat (first | apply Kd.V_alloc | apply Kd.V_drewN | apply Kd.V_drew)); exact HO_0.out⟩, ⟨by (with_reducible repeat (first | apply Kd.R_alloc | apply Kd.R_drewN | apply Kd.R_drew)); exact HO_5.out⟩, ⟨by (with_reducible repeat (first | apply Kd.R_alloc | apply Kd.R_drewN | apply Kd.R_drew)); exact HO_6.out⟩, ⟨by (with_reducible repeat (first | apply Kd.R_alloc | apply Kd.R_drewN | apply Kd.R_drew)); exact HO_350002.out⟩, ⟨by (with_reducible repeat (first | refine blk_drewN ?_ _ | refine blk_drew ?_ | refine blk_alloc ?_ _)); exact BK349.out⟩, ⟨by repeat (first | (with_reducible first | exact HB.out | apply below_alloc | apply pw_below_drewN | apply below_drew1 | refine below_set ?_ GE349.out) | exact HB.out)⟩⟩
                 ·rw [if_neg c74] at H
                  exact absurd H (by simp)
                ·rw [if_neg c73] at H
                 exact absurd H (by simp)
               case rest =>
                clear HC71
                try clear c1
                try clear c2
                try clear p2
                try clear p3
                try clear q3
                try clear hx3
                try clear c7
                try clear c19
                try clear c20
                try clear p37
                try clear q37
                try clear hx37
                try clear c73
                try clear c74
                try clear c75
                try clear c75b0
                try clear c75b1
                try clear c76
                try clear c78
                try clear hx371_0 hx371_1 hx371_2 hx371_3 hx371_4 hx371_5 hx371_6 hx371_7
                try clear hx372_0 hx372_1 hx372_2 hx372_3 hx372_4 hx372_5 hx372_6 hx372_7
                try clear hx373_0 hx373_1 hx373_2 hx373_3 hx373_4 hx373_5 hx373_6 hx373_7
                try clear p371
                try clear p372
                try clear p373
                try clear q371
                try clear q372
                try clear q373
                obtain ⟨kq, x125_70, rfl, HA, HJ70, HO_0, HO_5, HO_6, HO_350002, BK349, HB⟩ := hcut
                cases kq with
                | zero => exact absurd HA.out (by simp [tithebarnlaw17_LevelsNames.j5])
                | succ kj70 =>
                 have H := HA.out
                 clear HA
                 simp only [tithebarnlaw17_LevelsNames.j5] at H
                 by_cases c86 : x125_70 = true
                 ·subst c86
                  have H1 : (some false) = some r := by rw [if_pos rfl] at H; exact H
                  clear H
                  have H := H1
                  clear H1
                  obtain rfl := Option.some.inj H
                  go_wp2
                  go_ret
                  exact ⟨by first | rfl | (simp [errW_none, errW_some] <;> rfl) | (simp [*, errW_none, errW_some] <;> rfl), by repeat (first | (with_reducible first | exact HB.out | apply below_alloc | apply pw_below_drewN | apply below_drew1 | refine below_set ?_ GE349.out) | exact HB.out)⟩
                 ·replace c86 := Bool.eq_false_iff.mpr c86
                  subst c86
                  have H1 : (tithebarnlaw17_LevelsNames.l2 kj70 t339 x5_2 x6_2 x10_3 (wrap64 (x11_4 + 1)) t342 t343 t344 t347) = some r := by rw [if_neg (show ¬ (false = true) by decide)] at H; exact H
                  clear H
                  have H := H1
                  clear H1
                  have H' := Aside0.mk H
                  clear H
                  go_wp2
                  go_roundg kj70
                  case measure => have := HJ15.out; have := HK2.out; have := HK3.out; have := HK4.out; have := HJ70.out; omega
                  case rel => exact ⟨(wrap64 (x11_4 + 1)), (by first | rfl | (simp; done) | (simp [*]; done)), H', ⟨by have := HJ15.out; have := HK2.out; have := HK3.out; have := HK4.out; have := HJ70.out; omega⟩, ⟨by (with_reducible repeat (first | apply Kd.V_alloc | apply Kd.V_drewN | apply Kd.V_drew)); exact HO_0.out⟩, ⟨by (with_reducible repeat (first | apply Kd.R_alloc | apply Kd.R_drewN | apply Kd.R_drew)); exact HO_5.out⟩, ⟨by (with_reducible repeat (first | apply Kd.R_alloc | apply Kd.R_drewN | apply Kd.R_drew)); exact HO_6.out⟩, ⟨by (with_reducible repeat (first | apply Kd.R_alloc | apply Kd.R_drewN | apply Kd.R_drew)); exact HO_350002.out⟩, ⟨by (with_reducible repeat (first | refine blk_drewN ?_ _ | refine blk_drew ?_ | refine blk_alloc ?_ _)); exact BK349.out⟩, ⟨by repeat (first | (with_reducible first | exact HB.out | apply below_alloc | apply pw_below_drewN | apply below_drew1 | refine below_set ?_ GE349.out) | exact HB.out)⟩⟩
              ·rw [if_neg c70] at H
               have c70b0 : decide (x11_4 < (x5_2.length : Int)) = false := decide_eq_false c70
               clear c70
               have HC87 := Aside0.mk H
               clear H
               obtain ⟨Ao88, co88, eo88⟩ := Kd.R_slice HO_5.out
               subst eo88
               go_upto_region 28 with (fail)
               go_cut [146] (fun v146 wc => ∃ (kq : Nat) (x146_86 : Bool), v146 = .bool x146_86 ∧ Aside0 (tithebarnlaw17_LevelsNames.j6 kq t339 x5_2 x6_2 x10_3 x146_86 t342 t343 t344 t347 = some r) ∧ Aside0 (kq ≤ k4) ∧ Aside0 (Kd.V k38 38 wc w.heap.size (fun k_ => some k_ ≠ ((.slice Ao88 x5_2.length co88) : Value).ownBlock ∧ some k_ ≠ (u6 : Value).ownBlock ∧ some k_ ≠ ((.slice Ao23 t344.length co23) : Value).ownBlock ∧ k_ ≠ gb349) (.slice Ao19 t339.length co19) t339) ∧ Aside0 (Kd.R k38 38 wc w.heap.size (fun _ => True) (.slice Ao88 x5_2.length co88) x5_2) ∧ Aside0 (Kd.R (Kd.int .i64) 3 wc w.heap.size (fun k_ => some k_ ≠ ((.slice Ao23 t344.length co23) : Value).ownBlock) u6 x6_2) ∧ Aside0 (Kd.R (Kd.int .i64) 3 wc w.heap.size (fun k_ => some k_ ≠ (u6 : Value).ownBlock) (.slice Ao23 t344.length co23) t344) ∧ Aside0 (wc.heap[gb349]? = some (.cells #[.int .i64 t342, .int .i64 t343, (.slice Ao23 t344.length co23), .bool t347] 27 (0, 0))) ∧ Aside0 (Below w.heap.size w wc))
               case first =>
                have H := HC87.out
                clear HC87
                by_cases c89 : t342 = 0
                ·rw [if_pos c89] at H
                 have c89b0 : (t342 == 0) = true := beq_iff_eq.mpr c89
                 have c89b1 : (t342 != 0) = false := bne_eq_false_iff_eq.mpr c89
                 clear c89
                 (first | rw [c89b0] | (simp only [i64_w, i32_w]; rw [c89b0]) | skip)
                 by_cases c90 : 0 ≤ x10_3
                 ·rw [if_pos c90] at H
                  have c90b0 : decide (0 ≤ x10_3) = true := decide_eq_true c90
                  clear c90
                  by_cases c91 : x10_3 < (t339.length : Int)
                  ·rw [if_pos c91] at H
                   have c91b0 : decide (x10_3 < (t339.length : Int)) = true := decide_eq_true c91
                   clear c91
                   by_cases c92 : ((rd_T38 t339 x10_3).f1) = 0
                   ·rw [if_pos c92] at H
                    have c92b0 : (((rd_T38 t339 x10_3).f1) == 0) = true := beq_iff_eq.mpr c92
                    have c92b1 : (((rd_T38 t339 x10_3).f1) != 0) = false := bne_eq_false_iff_eq.mpr c92
                    clear c92
                    replace H := Option.bind_eq_some_iff.mp H
                    obtain ⟨t379, A930, H⟩ := H
                    replace H : (tithebarnlaw17_LevelsNames.j6 k4 t339 x5_2 x6_2 x10_3 (!t379) t342 t343 t344 t347) = some r := H
                    have A93 := Aside0.mk A930
                    clear A930
                    have H' := Aside0.mk H
                    clear H
                    obtain ⟨hcz94_0, hcz94_1, hcz94_2, hcz94_3⟩ := bc4 BK349.out
                    obtain ⟨hfz94_0, hfz94_1, hfz94_2, hfz94_3⟩ := bf4 BK349.out
                    have p377 : 0 ≤ (x10_3 : Int) := of_decide_eq_true (by with_reducible assumption)
                    have q377 : x10_3 < (t339.length : Int) := of_decide_eq_true (by with_reducible assumption)
                    obtain ⟨ad377, e377, hx377_0, hx377_1, hx377_2, hx377_3, hx377_4, hx377_5, hx377_6, hx377_7⟩ := at_T38 (Kd.V_reads' HO_0.out).2.2 x10_3 p377 q377
                    cases e377
                    replace p377 := eq_true p377
                    replace q377 := eq_true q377
                    have p378 : 0 ≤ (x10_3 : Int) := of_decide_eq_true (by with_reducible assumption)
                    have q378 : x10_3 < (t339.length : Int) := of_decide_eq_true (by with_reducible assumption)
                    obtain ⟨ad378, e378, hx378_0, hx378_1, hx378_2, hx378_3, hx378_4, hx378_5, hx378_6, hx378_7⟩ := at_T38 (Kd.V_reads' HO_0.out).2.2 x10_3 p378 q378
                    obtain rfl : ad377 = ad378 := (by injection e378)
                    replace p378 := eq_true p378
                    replace q378 := eq_true q378
                    obtain ⟨Ao95, co95, eo95⟩ := Kd.R_slice HO_6.out
                    subst eo95
                    go_wp2_with (first | (go_at_call 19; (with_reducible refine (tithebarnlaw17_has.calls k4 _ _ x6_2 ((rd_T38 t339 x10_3).f0) t379 _ ?side1 ?side2 A93.out).mono ?_); (case side1 => repeat (first | exact (Kd.R_reads' HO_6.out).2.2 | (with_reducible refine Kd.C_alloc ?_ _) | (with_reducible refine Kd.C_drewN ?_ _) | (with_reducible refine Kd.C_drew ?_))); (case side2 => exact (Kd.R_reads' HO_6.out).2.1); rintro e w' ⟨rfl, ⟨nd, rfl⟩⟩))
                    go_meet
                    case rel => exact ⟨_, (!t379), (by first | rfl | (simp; done) | (simp [*]; done)), H', ⟨by have := HJ15.out; have := HK2.out; have := HK3.out; have := HK4.out; first | omega | exact Nat.le_refl _⟩, ⟨by (with_reducible repeat (first | apply Kd.V_alloc | apply Kd.V_drewN | apply Kd.V_drew)); exact HO_0.out⟩, ⟨by (with_reducible repeat (first | apply Kd.R_alloc | apply Kd.R_drewN | apply Kd.R_drew)); exact HO_5.out⟩, ⟨by (with_reducible repeat (first | apply Kd.R_alloc | apply Kd.R_drewN | apply Kd.R_drew)); exact HO_6.out⟩, ⟨by (with_reducible repeat (first | apply Kd.R_alloc | apply Kd.R_drewN | apply Kd.R_drew)); exact HO_350002.out⟩, ⟨by (with_reducible repeat (first | refine blk_drewN ?_ _ | refine blk_drew ?_ | refine blk_alloc ?_ _)); exact BK349.out⟩, ⟨by repeat (first | (with_reducible first | exact HB.out | apply below_alloc | apply pw_below_drewN | apply below_drew1 | refine below_set ?_ GE349.out) | exact HB.out)⟩⟩
                   ·rw [if_neg c92] at H
                    have c92b0 : (((rd_T38 t339 x10_3).f1) == 0) = false := beq_eq_false_iff_ne.mpr c92
                    have c92b1 : (((rd_T38 t339 x10_3).f1) != 0) = true := bne_iff_ne.mpr c92
                    have H' := Aside0.mk H
                    clear H
                    obtain ⟨hcz96_0, hcz96_1, hcz96_2, hcz96_3⟩ := bc4 BK349.out
                    obtain ⟨hfz96_0, hfz96_1, hfz96_2, hfz96_3⟩ := bf4 BK349.out
                    have p377 : 0 ≤ (x10_3 : Int) := of_decide_eq_true (by with_reducible assumption)
                    have q377 : x10_3 < (t339.length : Int) := of_decide_eq_true (by with_reducible assumption)
                    obtain ⟨ad377, e377, hx377_0, hx377_1, hx377_2, hx377_3, hx377_4, hx377_5, hx377_6, hx377_7⟩ := at_T38 (Kd.V_reads' HO_0.out).2.2 x10_3 p377 q377
                    cases e377
                    replace p377 := eq_true p377
                    replace q377 := eq_true q377
                    go_wp2
                    go_meet
                    case rel => exact ⟨_, (false), (by first | rfl | (simp; done) | (simp [*]; done)), H', ⟨by have := HJ15.out; have := HK2.out; have := HK3.out; have := HK4.out; first | omega | exact Nat.le_refl _⟩, ⟨by (with_reducible repeat (first | apply Kd.V_alloc | apply Kd.V_drewN | apply Kd.V_drew)); exact HO_0.out⟩, ⟨by (with_reducible repeat (first | apply Kd.R_alloc | apply Kd.R_drewN | apply Kd.R_drew)); exact HO_5.out⟩, ⟨by (with_reducible repeat (first | apply Kd.R_alloc | apply Kd.R_drewN | apply Kd.R_drew)); exact HO_6.out⟩, ⟨by (with_reducible repeat (first | apply Kd.R_alloc | apply Kd.R_drewN | apply Kd.R_drew)); exact HO_350002.out⟩, ⟨by (with_reducible repeat (first | refine blk_drewN ?_ _ | refine blk_drew ?_ | refine blk_alloc ?_ _)); exact BK349.out⟩, ⟨by repeat (first | (with_reducible first | exact HB.out | apply below_alloc | apply pw_below_drewN | apply below_drew1 | refine below_set ?_ GE349.out) | exact HB.out)⟩⟩
                  ·rw [if_neg c91] at H
                   exact absurd H (by simp)
                 ·rw [if_neg c90] at H
                  exact absurd H (by simp)
                ·rw [if_neg c89] at H
                 have c89b0 : (t342 == 0) = false := beq_eq_false_iff_ne.mpr c89
                 have c89b1 : (t342 != 0) = true := bne_iff_ne.mpr c89
                 (first | rw [c89b0] | (simp only [i64_w, i32_w]; rw [c89b0]) | skip)
                 have H' := Aside0.mk H
                 clear H
                 obtain ⟨hcz97_0, hcz97_1, hcz97_2, hcz97_3⟩ := bc4 BK349.out
                 obtain ⟨hfz97_0, hfz97_1, hfz97_2, hfz97_3⟩ := bf4 BK349.out
                 go_wp2
                 go_meet
                 case rel => exact ⟨_, (false), (by first | rfl | (simp; done) | (simp [*]; done)), H', ⟨by have := HJ15.out; have := HK2.out; have := HK3.out; have := HK4.out; first | omega | exact Nat.le_refl _⟩, ⟨by (with_reducible repeat (first | apply Kd.V_alloc | apply Kd.V_drewN | apply Kd.V_drew)); exact HO_0.out⟩, ⟨by (with_reducible repeat (first | apply Kd.R_alloc | apply Kd.R_drewN | apply Kd.R_drew)); exact HO_5.out⟩, ⟨by (with_reducible repeat (first | apply Kd.R_alloc | apply Kd.R_drewN | apply Kd.R_drew)); exact HO_6.out⟩, ⟨by (with_reducible repeat (first | apply Kd.R_alloc | apply Kd.R_drewN | apply Kd.R_drew)); exact HO_350002.out⟩, ⟨by (with_reducible repeat (first | refine blk_drewN ?_ _ | refine blk_drew ?_ | refine blk_alloc ?_ _)); exact BK349.out⟩, ⟨by repeat (first | (with_reducible first | exact HB.out | apply below_alloc | apply pw_below_drewN | apply below_drew1 | refine below_set ?_ GE349.out) | exact HB.out)⟩⟩
               case rest =>
                clear HC87
                try clear c1
                try clear c2
                try clear p2
                try clear p3
                try clear q3
                try clear hx3
                try clear p6
                try clear c7
                try clear c8
                try clear c9
                try clear c19
                try clear c20
                try clear p37
                try clear q37
                try clear hx37
                try clear p64
                try clear c70
                try clear c70b0
                try clear c73
                try clear c74
                try clear c75
                try clear c75b0
                try clear c75b1
                try clear c76
                try clear c78
                try clear c86
                try clear c89
                try clear c89b0
                try clear c89b1
                try clear c90
                try clear c90b0
                try clear c91
                try clear c91b0
                try clear c92
                try clear c92b0
                try clear c92b1
                try clear hcz94_0 hcz94_1 hcz94_2 hcz94_3
                try clear hcz96_0 hcz96_1 hcz96_2 hcz96_3
                try clear hcz97_0 hcz97_1 hcz97_2 hcz97_3
                try clear hfz94_0 hfz94_1 hfz94_2 hfz94_3
                try clear hfz96_0 hfz96_1 hfz96_2 hfz96_3
                try clear hfz97_0 hfz97_1 hfz97_2 hfz97_3
                try clear hx371_0 hx371_1 hx371_2 hx371_3 hx371_4 hx371_5 hx371_6 hx371_7
                try clear hx372_0 hx372_1 hx372_2 hx372_3 hx372_4 hx372_5 hx372_6 hx372_7
                try clear hx373_0 hx373_1 hx373_2 hx373_3 hx373_4 hx373_5 hx373_6 hx373_7
                try clear hx377_0 hx377_1 hx377_2 hx377_3 hx377_4 hx377_5 hx377_6 hx377_7
                try clear hx378_0 hx378_1 hx378_2 hx378_3 hx378_4 hx378_5 hx378_6 hx378_7
                try clear p2
                try clear p3
                try clear p37
                try clear p371
                try clear p372
                try clear p373
                try clear p377
                try clear p378
                try clear q3
                try clear q37
                try clear q371
                try clear q372
                try clear q373
                try clear q377
                try clear q378
                obtain ⟨kq, x146_86, rfl, HA, HJ86, HO_0, HO_5, HO_6, HO_350002, BK349, HB⟩ := hcut
                cases kq with
                | zero => exact absurd HA.out (by simp [tithebarnlaw17_LevelsNames.j6])
                | succ kj86 =>
                 have H := HA.out
                 clear HA
                 simp only [tithebarnlaw17_LevelsNames.j6] at H
                 by_cases c98 : x146_86 = true
                 ·subst c98
                  have H1 : (some false) = some r := by rw [if_pos rfl] at H; exact H
                  clear H
                  have H := H1
                  clear H1
                  obtain rfl := Option.some.inj H
                  go_wp2
                  go_ret
                  exact ⟨by first | rfl | (simp [errW_none, errW_some] <;> rfl) | (simp [*, errW_none, errW_some] <;> rfl), by repeat (first | (with_reducible first | exact HB.out | apply below_alloc | apply pw_below_drewN | apply below_drew1 | refine below_set ?_ GE349.out) | exact HB.out)⟩
                 ·replace c98 := Bool.eq_false_iff.mpr c98
                  subst c98
                  have H1 : (tithebarnlaw17_LevelsNames.l1 kj86 t339 x5_2 x6_2 (wrap64 (x10_3 + 1)) t342 t343 t344 t347) = some r := by rw [if_neg (show ¬ (false = true) by decide)] at H; exact H
                  clear H
                  have H := H1
                  clear H1
                  have H' := Aside0.mk H
                  clear H
                  go_wp2
                  go_roundg kj86
                  case measure => have := HJ15.out; have := HK2.out; have := HK3.out; have := HK4.out; have := HJ86.out; omega
                  case rel => exact ⟨(wrap64 (x10_3 + 1)), (by first | rfl | (simp; done) | (simp [*]; done)), H', ⟨by have := HJ15.out; have := HK2.out; have := HK3.out; have := HK4.out; have := HJ86.out; omega⟩, ⟨by (with_reducible repeat (first | apply Kd.V_alloc | apply Kd.V_drewN | apply Kd.V_drew)); exact HO_0.out⟩, ⟨by (with_reducible repeat (first | apply Kd.R_alloc | apply Kd.R_drewN | apply Kd.R_drew)); exact HO_5.out⟩, ⟨by (with_reducible repeat (first | apply Kd.R_alloc | apply Kd.R_drewN | apply Kd.R_drew)); exact HO_6.out⟩, ⟨by (with_reducible repeat (first | apply Kd.R_alloc | apply Kd.R_drewN | apply Kd.R_drew)); exact HO_350002.out⟩, ⟨by (with_reducible repeat (first | refine blk_drewN ?_ _ | refine blk_drew ?_ | refine blk_alloc ?_ _)); exact BK349.out⟩, ⟨by repeat (first | (with_reducible first | exact HB.out | apply below_alloc | apply pw_below_drewN | apply below_drew1 | refine below_set ?_ GE349.out) | exact HB.out)⟩⟩
           ·rw [if_neg c69] at H
            have c69b0 : decide (x10_3 < (t339.length : Int)) = false := decide_eq_false c69
            clear c69
            by_cases c99 : t343 = (wrap64 (t342 + 1))
            ·rw [if_pos c99] at H
             have c99b0 : (t343 == (wrap64 (t342 + 1))) = true := beq_iff_eq.mpr c99
             have c99b1 : (t343 != (wrap64 (t342 + 1))) = false := bne_eq_false_iff_eq.mpr c99
             clear c99
             obtain rfl := Option.some.inj H
             obtain ⟨hcz100_0, hcz100_1, hcz100_2, hcz100_3⟩ := bc4 BK349.out
             obtain ⟨hfz100_0, hfz100_1, hfz100_2, hfz100_3⟩ := bf4 BK349.out
             obtain ⟨Ao101, co101, eo101⟩ := Kd.R_slice HO_5.out
             subst eo101
             go_wp2
             go_ret
             exact ⟨by first | rfl | (simp [errW_none, errW_some] <;> rfl) | (simp [*, errW_none, errW_some] <;> rfl), by repeat (first | (with_reducible first | exact HB.out | apply below_alloc | apply pw_below_drewN | apply below_drew1 | refine below_set ?_ GE349.out) | exact HB.out)⟩
            ·rw [if_neg c99] at H
             have c99b0 : (t343 == (wrap64 (t342 + 1))) = false := beq_eq_false_iff_ne.mpr c99
             have c99b1 : (t343 != (wrap64 (t342 + 1))) = true := bne_iff_ne.mpr c99
             obtain rfl := Option.some.inj H
             obtain ⟨hcz102_0, hcz102_1, hcz102_2, hcz102_3⟩ := bc4 BK349.out
             obtain ⟨hfz102_0, hfz102_1, hfz102_2, hfz102_3⟩ := bf4 BK349.out
             go_wp2
             go_ret
             exact ⟨by first | rfl | (simp [errW_none, errW_some] <;> rfl) | (simp [*, errW_none, errW_some] <;> rfl), by repeat (first | (with_reducible first | exact HB.out | apply below_alloc | apply pw_below_drewN | apply below_drew1 | refine below_set ?_ GE349.out) | exact HB.out)⟩
 ·replace c3 := Bool.eq_false_iff.mpr c3
  subst c3
  have H1 : (some false) = some r := by rw [if_neg (show ¬ (false = true) by decide)] at H; exact H
  clear H
  have H := H1
  clear H1
  obtain rfl := Option.some.inj H
  go_enter Try.func4, Try.ntmps4
  go_wp2_with (first | ((with_reducible refine gate_callee (f := 8) rfl ?_); refine goesL_ (some 12) rfl rfl Try.func8 (by kernel_rfl) rfl #[] rfl (by (try simp only [List.map_toArray, List.map_cons, List.map_nil]); first | done | rfl | (simp only [List.length_drop, List.length_take]; rfl)) ?_; (with_reducible refine (tithebarnlaw17_lives_c.calls k  false _ A2.out).mono ?_); rintro e w103 ⟨rfl, hb⟩; refine ⟨_, rfl, ?_⟩; have n0_ := Aside0.mk (below_step (by with_reducible repeat first | exact HB.out | apply below_alloc | apply pw_below_drewN | apply below_drew1) hb); clear HB; have HB := n0_; clear n0_; (try clear hb); (try clear hb2); (try clear hk); (try clear hi)))
  go_ret
  exact ⟨by first | rfl | (simp [errW_none, errW_some] <;> rfl) | (simp [*, errW_none, errW_some] <;> rfl), by repeat (first | (with_reducible first | exact HB.out | apply below_alloc | apply pw_below_drewN | apply below_drew1) | exact HB.out)⟩

end Go.Proofs.Ytcbgcmaioicdbaa.Pr
