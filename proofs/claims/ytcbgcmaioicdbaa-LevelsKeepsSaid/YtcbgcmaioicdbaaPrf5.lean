-- printed by xprint.py
import Derived.Test.YtcbgcmaioicdbaaVaw
import Derived.Test.YtcbgcmaioicdbaaPr0
import Derived.Test.YtcbgcmaioicdbaaPrf10
import Derived.Test.YtcbgcmaioicdbaaPrf13
import Derived.Test.YtcbgcmaioicdbaaPrf8
import Derived.Test.YtcbgcmaioicdbaaPrf9
import Derived.Test.YtcbgcmaioicdbaaPrf20
import Derived.Test.YtcbgcmaioicdbaaPrf17
import Derived.Test.YtcbgcmaioicdbaaPrf21
import Derived.Test.YtcbgcmaioicdbaaPrf22
namespace Go.Proofs.Ytcbgcmaioicdbaa.Pr
open Go.RowKit Go.Proofs.YtcbgcmaioicdbaaW PrintWords PrintLast PrintMore
set_option linter.unusedVariables false
set_option linter.unusedSimpArgs false

/-! ### tithebarnlaw17_LevelsKeeps: function 5 -/
mutual
def tithebarnlaw17_LevelsKeeps.j0 : Nat → List (S38) → Bool → Int → Int → List Int → Bool → Option (Bool)
 | 0, _, _, _, _, _, _ => none
 | k + 1, x0, x31, x401000, x401001, x401002, x401003 => if x31 = true then (some true) else (tithebarnlaw17_LevelsKeeps.l0 k x0 ([] : List (S38)) true 0 x401000 x401001 x401002 x401003 0 x401001 false 0 (⟨#[]⟩ : ByteArray) false 0 (⟨#[]⟩ : ByteArray))
def tithebarnlaw17_LevelsKeeps.l0 : Nat → List (S38) → List (S38) → Bool → Int → Int → Int → List Int → Bool → Int → Int → Bool → Int → ByteArray → Bool → Int → ByteArray → Option (Bool)
 | 0, _, _, _, _, _, _, _, _, _, _, _, _, _, _, _, _ => none
 | k + 1, x0, x6, x7, x8, x401000, x401001, x401002, x401003, x404000, x404001, x404002, x404003, x404004, x404005, x404006, x404007 => if x8 < (x0.length : Int) then (tithebarnlaw17_LevelsKeeps.l1 k x0 x6 x7 x8 false 0 x401000 x401001 x401002 x401003 x404000 x404001 x404002 x404003 x404004 x404005 x404006 x404007) else ((tithebarnlaw17_well.f k x6).bind fun t426 => (if t426 = true then (if x6.length < 1759218604441 then ((levels_Disjoint.f k (x6 ++ [(⟨x404000, x404001, (⟨x404002, x404003, x404004⟩ : S36), (⟨x404005, x404006, x404007⟩ : S36)⟩ : S38)])).bind fun t430 => (some t430)) else (none)) else (some true)))
def tithebarnlaw17_LevelsKeeps.l1 : Nat → List (S38) → List (S38) → Bool → Int → Bool → Int → Int → Int → List Int → Bool → Int → Int → Bool → Int → ByteArray → Bool → Int → ByteArray → Option (Bool)
 | 0, _, _, _, _, _, _, _, _, _, _, _, _, _, _, _, _, _, _ => none
 | k + 1, x0, x6, x7, x8, x9, x10, x401000, x401001, x401002, x401003, x404000, x404001, x404002, x404003, x404004, x404005, x404006, x404007 => if x10 < (x401002.length : Int) then (if x9 = true then (tithebarnlaw17_LevelsKeeps.l1 k x0 x6 x7 x8 true (wrap64 (x10 + 1)) x401000 x401001 x401002 x401003 x404000 x404001 x404002 x404003 x404004 x404005 x404006 x404007) else (if 0 ≤ x10 then (if 0 ≤ x8 then (if x8 < (x0.length : Int) then (tithebarnlaw17_LevelsKeeps.l1 k x0 x6 x7 x8 ((rd x401002 x10) == ((rd_T38 x0 x8).f0)) (wrap64 (x10 + 1)) x401000 x401001 x401002 x401003 x404000 x404001 x404002 x404003 x404004 x404005 x404006 x404007) else (none)) else (none)) else (none))) else (if x9 = true then (if 0 ≤ x8 then (if x8 < (x0.length : Int) then (if (rd_T38 x0 x8).f2.f0 = true then (tithebarnlaw17_LevelsKeeps.j3 k x0 x6 x7 x8 true x401000 x401001 x401002 x401003 x404000 x404001 x404002 x404003 x404004 x404005 x404006 x404007) else (if (rd_T38 x0 x8).f3.f0 = true then (tithebarnlaw17_LevelsKeeps.j3 k x0 x6 x7 x8 true x401000 x401001 x401002 x401003 x404000 x404001 x404002 x404003 x404004 x404005 x404006 x404007) else ((tithebarnref17_Overlap.f ((rd_T38 x0 x8).f0) ((rd_T38 x0 x8).f1) ((rd_T38 x0 x8).f2.f0) ((rd_T38 x0 x8).f2.f1) ((rd_T38 x0 x8).f2.f2) ((rd_T38 x0 x8).f3.f0) ((rd_T38 x0 x8).f3.f1) ((rd_T38 x0 x8).f3.f2) ((rd_T38 x0 x8).f0) ((rd_T38 x0 x8).f1) ((rd_T38 x0 x8).f2.f0) ((rd_T38 x0 x8).f2.f1) ((rd_T38 x0 x8).f2.f2) ((rd_T38 x0 x8).f3.f0) ((rd_T38 x0 x8).f3.f1) ((rd_T38 x0 x8).f3.f2)).bind fun t414 => (tithebarnlaw17_LevelsKeeps.j3 k x0 x6 x7 x8 (!t414) x401000 x401001 x401002 x401003 x404000 x404001 x404002 x404003 x404004 x404005 x404006 x404007)))) else (none)) else (none)) else (if 0 ≤ x8 then (if x8 < (x0.length : Int) then (if x6.length < 1759218604441 then (tithebarnlaw17_LevelsKeeps.l0 k x0 (x6 ++ [(⟨(rd_T38 x0 x8).f0, (rd_T38 x0 x8).f1, (⟨(rd_T38 x0 x8).f2.f0, (rd_T38 x0 x8).f2.f1, (rd_T38 x0 x8).f2.f2⟩ : S36), (⟨(rd_T38 x0 x8).f3.f0, (rd_T38 x0 x8).f3.f1, (rd_T38 x0 x8).f3.f2⟩ : S36)⟩ : S38)]) x7 (wrap64 (x8 + 1)) x401000 x401001 x401002 x401003 x404000 x404001 x404002 x404003 x404004 x404005 x404006 x404007) else (none)) else (none)) else (none)))
def tithebarnlaw17_LevelsKeeps.j3 : Nat → List (S38) → List (S38) → Bool → Int → Bool → Int → Int → List Int → Bool → Int → Int → Bool → Int → ByteArray → Bool → Int → ByteArray → Option (Bool)
 | 0, _, _, _, _, _, _, _, _, _, _, _, _, _, _, _, _, _ => none
 | k + 1, x0, x6, x7, x8, x96, x401000, x401001, x401002, x401003, x404000, x404001, x404002, x404003, x404004, x404005, x404006, x404007 => if x96 = true then (some true) else (if x7 = true then (if 0 ≤ x8 then (if x8 < (x0.length : Int) then (tithebarnlaw17_LevelsKeeps.j4 k x0 x6 false x8 x401000 x401001 x401002 x401003 x404000 x404001 ((rd_T38 x0 x8).f2.f0) ((rd_T38 x0 x8).f2.f1) ((rd_T38 x0 x8).f2.f2) ((rd_T38 x0 x8).f3.f0) ((rd_T38 x0 x8).f3.f1) ((rd_T38 x0 x8).f3.f2)) else (none)) else (none)) else (tithebarnlaw17_LevelsKeeps.j4 k x0 x6 x7 x8 x401000 x401001 x401002 x401003 x404000 x404001 x404002 x404003 x404004 x404005 x404006 x404007))
def tithebarnlaw17_LevelsKeeps.j4 : Nat → List (S38) → List (S38) → Bool → Int → Int → Int → List Int → Bool → Int → Int → Bool → Int → ByteArray → Bool → Int → ByteArray → Option (Bool)
 | 0, _, _, _, _, _, _, _, _, _, _, _, _, _, _, _, _ => none
 | k + 1, x0, x6, x7, x8, x401000, x401001, x401002, x401003, x404000, x404001, x404002, x404003, x404004, x404005, x404006, x404007 => if 0 ≤ x8 then (if x8 < (x0.length : Int) then ((tithebarnlaw17_wider.f x404000 x404001 x404002 x404003 x404004 x404005 x404006 x404007 ((rd_T38 x0 x8).f0) ((rd_T38 x0 x8).f1) ((rd_T38 x0 x8).f2.f0) ((rd_T38 x0 x8).f2.f1) ((rd_T38 x0 x8).f2.f2) ((rd_T38 x0 x8).f3.f0) ((rd_T38 x0 x8).f3.f1) ((rd_T38 x0 x8).f3.f2)).bind fun bt418 => (tithebarnlaw17_LevelsKeeps.l0 k x0 x6 x7 (wrap64 (x8 + 1)) x401000 x401001 x401002 x401003 bt418.1 bt418.2.1 bt418.2.2.1 bt418.2.2.2.1 bt418.2.2.2.2.1 bt418.2.2.2.2.2.1 bt418.2.2.2.2.2.2.1 bt418.2.2.2.2.2.2.2)) else (none)) else (none)
end
def tithebarnlaw17_LevelsKeeps.f (k : Nat) (l0 : List (S38)) : Option (Bool) := (tithebarnlaw17_lives_c.f k).bind fun t389 => (if t389 = true then ((tithebarnlaw17_early.f l0).bind fun t390 => ((levels_Pick.f t390).bind fun bt393 => (if bt393.2.2.2.2 = true then ((levels_Disjoint.f k t390).bind fun t401 => (if t401 = true then ((tithebarnlaw17_unlike.f k t390).bind fun t402 => (tithebarnlaw17_LevelsKeeps.j0 k t390 (!t402) bt393.1 bt393.2.1 bt393.2.2.1 bt393.2.2.2.1)) else (tithebarnlaw17_LevelsKeeps.j0 k t390 true bt393.1 bt393.2.1 bt393.2.2.1 bt393.2.2.2.1))) else (tithebarnlaw17_LevelsKeeps.j0 k t390 true bt393.1 bt393.2.1 bt393.2.2.1 bt393.2.2.2.1)))) else (some false))
theorem tithebarnlaw17_LevelsKeeps.mono_l : ∀ k, (∀ y0 y1 y2 y3 y4 y5, LeO (tithebarnlaw17_LevelsKeeps.j0 k y0 y1 y2 y3 y4 y5) (tithebarnlaw17_LevelsKeeps.j0 (k + 1) y0 y1 y2 y3 y4 y5)) ∧ (∀ y0 y1 y2 y3 y4 y5 y6 y7 y8 y9 y10 y11 y12 y13 y14 y15, LeO (tithebarnlaw17_LevelsKeeps.l0 k y0 y1 y2 y3 y4 y5 y6 y7 y8 y9 y10 y11 y12 y13 y14 y15) (tithebarnlaw17_LevelsKeeps.l0 (k + 1) y0 y1 y2 y3 y4 y5 y6 y7 y8 y9 y10 y11 y12 y13 y14 y15)) ∧ (∀ y0 y1 y2 y3 y4 y5 y6 y7 y8 y9 y10 y11 y12 y13 y14 y15 y16 y17, LeO (tithebarnlaw17_LevelsKeeps.l1 k y0 y1 y2 y3 y4 y5 y6 y7 y8 y9 y10 y11 y12 y13 y14 y15 y16 y17) (tithebarnlaw17_LevelsKeeps.l1 (k + 1) y0 y1 y2 y3 y4 y5 y6 y7 y8 y9 y10 y11 y12 y13 y14 y15 y16 y17)) ∧ (∀ y0 y1 y2 y3 y4 y5 y6 y7 y8 y9 y10 y11 y12 y13 y14 y15 y16, LeO (tithebarnlaw17_LevelsKeeps.j3 k y0 y1 y2 y3 y4 y5 y6 y7 y8 y9 y10 y11 y12 y13 y14 y15 y16) (tithebarnlaw17_LevelsKeeps.j3 (k + 1) y0 y1 y2 y3 y4 y5 y6 y7 y8 y9 y10 y11 y12 y13 y14 y15 y16)) ∧ (∀ y0 y1 y2 y3 y4 y5 y6 y7 y8 y9 y10 y11 y12 y13 y14 y15, LeO (tithebarnlaw17_LevelsKeeps.j4 k y0 y1 y2 y3 y4 y5 y6 y7 y8 y9 y10 y11 y12 y13 y14 y15) (tithebarnlaw17_LevelsKeeps.j4 (k + 1) y0 y1 y2 y3 y4 y5 y6 y7 y8 y9 y10 y11 y12 y13 y14 y15))
 | 0 => ⟨fun _ _ _ _ _ _ r h => by simp [tithebarnlaw17_LevelsKeeps.j0] at h, fun _ _ _ _ _ _ _ _ _ _ _ _ _ _ _ _ r h => by simp [tithebarnlaw17_LevelsKeeps.l0] at h, fun _ _ _ _ _ _ _ _ _ _ _ _ _ _ _ _ _ _ r h => by simp [tithebarnlaw17_LevelsKeeps.l1] at h, fun _ _ _ _ _ _ _ _ _ _ _ _ _ _ _ _ _ r h => by simp [tithebarnlaw17_LevelsKeeps.j3] at h, fun _ _ _ _ _ _ _ _ _ _ _ _ _ _ _ _ r h => by simp [tithebarnlaw17_LevelsKeeps.j4] at h⟩
 | k + 1 => by
  obtain ⟨ih0, ih1, ih2, ih3, ih4⟩ := tithebarnlaw17_LevelsKeeps.mono_l k
  refine ⟨?_, ?_, ?_, ?_, ?_⟩
  ·intro y0 y1 y2 y3 y4 y5
   unfold tithebarnlaw17_LevelsKeeps.j0
   repeat' first
   | (with_reducible exact ih0 _ _ _ _ _ _)
   | (with_reducible exact ih1 _ _ _ _ _ _ _ _ _ _ _ _ _ _ _ _)
   | (with_reducible exact ih2 _ _ _ _ _ _ _ _ _ _ _ _ _ _ _ _ _ _)
   | (with_reducible exact ih3 _ _ _ _ _ _ _ _ _ _ _ _ _ _ _ _ _)
   | (with_reducible exact ih4 _ _ _ _ _ _ _ _ _ _ _ _ _ _ _ _)
   | (with_reducible exact levels_Disjoint.mono _ _)
   | (with_reducible exact tithebarnlaw17_lives_c.mono _)
   | (with_reducible exact tithebarnlaw17_unlike.mono _ _)
   | (with_reducible exact tithebarnlaw17_well.mono _ _)
   | (with_reducible exact LeO.refl _)
   | (with_reducible exact LeO.none _)
   | (with_reducible refine LeO.ite ?_ ?_)
   | (with_reducible refine LeO.bind ?_ (fun _ => ?_))
  ·intro y0 y1 y2 y3 y4 y5 y6 y7 y8 y9 y10 y11 y12 y13 y14 y15
   unfold tithebarnlaw17_LevelsKeeps.l0
   repeat' first
   | (with_reducible exact ih0 _ _ _ _ _ _)
   | (with_reducible exact ih1 _ _ _ _ _ _ _ _ _ _ _ _ _ _ _ _)
   | (with_reducible exact ih2 _ _ _ _ _ _ _ _ _ _ _ _ _ _ _ _ _ _)
   | (with_reducible exact ih3 _ _ _ _ _ _ _ _ _ _ _ _ _ _ _ _ _)
   | (with_reducible exact ih4 _ _ _ _ _ _ _ _ _ _ _ _ _ _ _ _)
   | (with_reducible exact levels_Disjoint.mono _ _)
   | (with_reducible exact tithebarnlaw17_lives_c.mono _)
   | (with_reducible exact tithebarnlaw17_unlike.mono _ _)
   | (with_reducible exact tithebarnlaw17_well.mono _ _)
   | (with_reducible exact LeO.refl _)
   | (with_reducible exact LeO.none _)
   | (with_reducible refine LeO.ite ?_ ?_)
   | (with_reducible refine LeO.bind ?_ (fun _ => ?_))
  ·intro y0 y1 y2 y3 y4 y5 y6 y7 y8 y9 y10 y11 y12 y13 y14 y15 y16 y17
   unfold tithebarnlaw17_LevelsKeeps.l1
   repeat' first
   | (with_reducible exact ih0 _ _ _ _ _ _)
   | (with_reducible exact ih1 _ _ _ _ _ _ _ _ _ _ _ _ _ _ _ _)
   | (with_reducible exact ih2 _ _ _ _ _ _ _ _ _ _ _ _ _ _ _ _ _ _)
   | (with_reducible exact ih3 _ _ _ _ _ _ _ _ _ _ _ _ _ _ _ _ _)
   | (with_reducible exact ih4 _ _ _ _ _ _ _ _ _ _ _ _ _ _ _ _)
   | (with_reducible exact levels_Disjoint.mono _ _)
   | (with_reducible exact tithebarnlaw17_lives_c.mono _)
   | (with_reducible exact tithebarnlaw17_unlike.mono _ _)
   | (with_reducible exact tithebarnlaw17_well.mono _ _)
   | (with_reducible exact LeO.refl _)
   | (with_reducible exact LeO.none _)
   | (with_reducible refine LeO.ite ?_ ?_)
   | (with_reducible refine LeO.bind ?_ (fun _ => ?_))
  ·intro y0 y1 y2 y3 y4 y5 y6 y7 y8 y9 y10 y11 y12 y13 y14 y15 y16
   unfold tithebarnlaw17_LevelsKeeps.j3
   repeat' first
   | (with_reducible exact ih0 _ _ _ _ _ _)
   | (with_reducible exact ih1 _ _ _ _ _ _ _ _ _ _ _ _ _ _ _ _)
   | (with_reducible exact ih2 _ _ _ _ _ _ _ _ _ _ _ _ _ _ _ _ _ _)
   | (with_reducible exact ih3 _ _ _ _ _ _ _ _ _ _ _ _ _ _ _ _ _)
   | (with_reducible exact ih4 _ _ _ _ _ _ _ _ _ _ _ _ _ _ _ _)
   | (with_reducible exact levels_Disjoint.mono _ _)
   | (with_reducible exact tithebarnlaw17_lives_c.mono _)
   | (with_reducible exact tithebarnlaw17_unlike.mono _ _)
   | (with_reducible exact tithebarnlaw17_well.mono _ _)
   | (with_reducible exact LeO.refl _)
   | (with_reducible exact LeO.none _)
   | (with_reducible refine LeO.ite ?_ ?_)
   | (with_reducible refine LeO.bind ?_ (fun _ => ?_))
  ·intro y0 y1 y2 y3 y4 y5 y6 y7 y8 y9 y10 y11 y12 y13 y14 y15
   unfold tithebarnlaw17_LevelsKeeps.j4
   repeat' first
   | (with_reducible exact ih0 _ _ _ _ _ _)
   | (with_reducible exact ih1 _ _ _ _ _ _ _ _ _ _ _ _ _ _ _ _)
   | (with_reducible exact ih2 _ _ _ _ _ _ _ _ _ _ _ _ _ _ _ _ _ _)
   | (with_reducible exact ih3 _ _ _ _ _ _ _ _ _ _ _ _ _ _ _ _ _)
   | (with_reducible exact ih4 _ _ _ _ _ _ _ _ _ _ _ _ _ _ _ _)
   | (with_reducible exact levels_Disjoint.mono _ _)
   | (with_reducible exact tithebarnlaw17_lives_c.mono _)
   | (with_reducible exact tithebarnlaw17_unlike.mono _ _)
   | (with_reducible exact tithebarnlaw17_well.mono _ _)
   | (with_reducible exact LeO.refl _)
   | (with_reducible exact LeO.none _)
   | (with_reducible refine LeO.ite ?_ ?_)
   | (with_reducible refine LeO.bind ?_ (fun _ => ?_))
theorem tithebarnlaw17_LevelsKeeps.mono : ∀ a0 k, LeO (tithebarnlaw17_LevelsKeeps.f k a0) (tithebarnlaw17_LevelsKeeps.f (k + 1) a0) := by
 intro a0 k
 obtain ⟨ih0, ih1, ih2, ih3, ih4⟩ := tithebarnlaw17_LevelsKeeps.mono_l k
 unfold tithebarnlaw17_LevelsKeeps.f
 repeat' first
   | (with_reducible exact ih0 _ _ _ _ _ _)
   | (with_reducible exact ih1 _ _ _ _ _ _ _ _ _ _ _ _ _ _ _ _)
   | (with_reducible exact ih2 _ _ _ _ _ _ _ _ _ _ _ _ _ _ _ _ _ _)
   | (with_reducible exact ih3 _ _ _ _ _ _ _ _ _ _ _ _ _ _ _ _ _)
   | (with_reducible exact ih4 _ _ _ _ _ _ _ _ _ _ _ _ _ _ _ _)
   | (with_reducible exact levels_Disjoint.mono _ _)
   | (with_reducible exact tithebarnlaw17_lives_c.mono _)
   | (with_reducible exact tithebarnlaw17_unlike.mono _ _)
   | (with_reducible exact tithebarnlaw17_well.mono _ _)
   | (with_reducible exact LeO.refl _)
   | (with_reducible exact LeO.none _)
   | (with_reducible refine LeO.ite ?_ ?_)
   | (with_reducible refine LeO.bind ?_ (fun _ => ?_))
def tithebarnlaw17_LevelsKeeps.T17 : Bool × List (List Nat × List Nat) := (true, [([], []), ([0], [0]), ([1], [1]), ([2, 1], [1, 2]), ([1], [1]), ([3, 4, 1], [1, 3, 4]), ([5, 1], [1, 5]), ([1], [1]), ([1], [1]), ([7, 8, 1], [1, 7, 8]), ([9, 1], [1, 9]), ([10, 1], [1, 10]), ([6, 11, 1], [1, 6, 11]), ([1, 12], [1, 12]), ([13, 1, 0, 1, 2, 3, 4, 5, 6, 7, 8, 9, 10, 11, 12, 13], [0, 13])])
def tithebarnlaw17_LevelsKeeps.B17 : List Nat := [0, 1, 3, 7, 3, 31, 63, 3, 3, 387, 899, 1923, 4095, 8191, 16383]
theorem tithebarnlaw17_LevelsKeeps.tab17 : rtab .any (opsOf Try.f5 17) = tithebarnlaw17_LevelsKeeps.T17 := by kernel_rfl
theorem tithebarnlaw17_LevelsKeeps.bits17 : waitsOk tithebarnlaw17_LevelsKeeps.T17.2 tithebarnlaw17_LevelsKeeps.B17 = true := by kernel_rfl
def tithebarnlaw17_LevelsKeeps.T20 : Bool × List (List Nat × List Nat) := (true, [([], []), ([], []), ([0, 1], [0, 1]), ([2], [2]), ([3], [3]), ([4], [4]), ([5], [5]), ([6], [6]), ([6], [6]), ([7, 8, 6], [6, 7, 8]), ([9, 6], [6, 9]), ([10, 6], [6, 10]), ([11, 6], [6, 11]), ([6, 12], [6, 12]), ([13, 6], [13]), ([14], [14]), ([14], [14]), ([15, 16, 14], [14, 15, 16]), ([17, 14], [14, 17]), ([14], [14]), ([14], [14]), ([19, 20, 14], [14, 19, 20]), ([21, 14], [14, 21]), ([18, 22, 14, 14], [14, 18, 22]), ([23, 14], [14, 23]), ([14, 24], [14, 24])])
def tithebarnlaw17_LevelsKeeps.B20 : List Nat := [0, 0, 3, 7, 15, 31, 63, 127, 127, 511, 1023, 2047, 4095, 8191, 16383, 32767, 32767, 131071, 262143, 32767, 32767, 1605631, 3702783, 8388607, 16777215, 33554431]
theorem tithebarnlaw17_LevelsKeeps.tab20 : rtab .any (opsOf Try.f5 20) = tithebarnlaw17_LevelsKeeps.T20 := by kernel_rfl
theorem tithebarnlaw17_LevelsKeeps.bits20 : waitsOk tithebarnlaw17_LevelsKeeps.T20.2 tithebarnlaw17_LevelsKeeps.B20 = true := by kernel_rfl
def tithebarnlaw17_LevelsKeeps.T23 : Bool × List (List Nat × List Nat) := (true, [([], []), ([], []), ([0, 1], [0, 1]), ([2], [2]), ([3], [3]), ([], []), ([], []), ([5, 6], [5, 6]), ([7], [7]), ([8], [8]), ([0, 1, 2, 3, 4], []), ([10, 4, 0, 1, 2, 3, 4], [4, 10]), ([0, 1, 2, 3, 4, 5, 6, 7, 8, 9, 10, 11], []), ([12, 9, 11, 0, 1, 2, 3, 4, 5, 6, 7, 8, 9, 10, 11], [9, 12])])
def tithebarnlaw17_LevelsKeeps.B23 : List Nat := [0, 0, 3, 7, 15, 0, 0, 96, 224, 480, 31, 1055, 4095, 8191]
theorem tithebarnlaw17_LevelsKeeps.tab23 : rtab .any (opsOf Try.f5 23) = tithebarnlaw17_LevelsKeeps.T23 := by kernel_rfl
theorem tithebarnlaw17_LevelsKeeps.bits23 : waitsOk tithebarnlaw17_LevelsKeeps.T23.2 tithebarnlaw17_LevelsKeeps.B23 = true := by kernel_rfl
set_option maxHeartbeats 8000000 in
set_option maxRecDepth 100000 in
theorem tithebarnlaw17_LevelsKeeps.calls (k : Nat) (A0 : Option Addr) (c0 : Nat) (l0 : List (S38)) (r : Bool) (w : World) (hr0 : Kd.C k38 w A0 l0.length l0) (hc0 : l0.length ≤ c0) (h : tithebarnlaw17_LevelsKeeps.f k l0 = some r) :
  Calls Try.prog 5 #[.slice A0 l0.length c0] w fun e w' => e = .returned (.bool r) ∧ Below w.heap.size w w' := by
 have hu27 := Try.underlying27
 have hu38 := Try.underlying38
 have hu36 := Try.underlying36
 have HR0 := Aside0.mk hr0
 have HC0 := Aside0.mk hc0
 clear hr0 hc0
 have HB := Aside0.mk (Below.refl w.heap.size w)
 have H : ((tithebarnlaw17_lives_c.f k).bind fun t389 => (if t389 = true then ((tithebarnlaw17_early.f l0).bind fun t390 => ((levels_Pick.f t390).bind fun bt393 => (if bt393.2.2.2.2 = true then ((levels_Disjoint.f k t390).bind fun t401 => (if t401 = true then ((tithebarnlaw17_unlike.f k t390).bind fun t402 => (tithebarnlaw17_LevelsKeeps.j0 k t390 (!t402) bt393.1 bt393.2.1 bt393.2.2.1 bt393.2.2.2.1)) else (tithebarnlaw17_LevelsKeeps.j0 k t390 true bt393.1 bt393.2.1 bt393.2.2.1 bt393.2.2.2.1))) else (tithebarnlaw17_LevelsKeeps.j0 k t390 true bt393.1 bt393.2.1 bt393.2.2.1 bt393.2.2.2.1)))) else (some false))) = some r := h
 clear h
 replace H := Option.bind_eq_some_iff.mp H
 obtain ⟨t389, A20, H⟩ := H
 replace H : (if t389 = true then ((tithebarnlaw17_early.f l0).bind fun t390 => ((levels_Pick.f t390).bind fun bt393 => (if bt393.2.2.2.2 = true then ((levels_Disjoint.f k t390).bind fun t401 => (if t401 = true then ((tithebarnlaw17_unlike.f k t390).bind fun t402 => (tithebarnlaw17_LevelsKeeps.j0 k t390 (!t402) bt393.1 bt393.2.1 bt393.2.2.1 bt393.2.2.2.1)) else (tithebarnlaw17_LevelsKeeps.j0 k t390 true bt393.1 bt393.2.1 bt393.2.2.1 bt393.2.2.2.1))) else (tithebarnlaw17_LevelsKeeps.j0 k t390 true bt393.1 bt393.2.1 bt393.2.2.1 bt393.2.2.2.1)))) else (some false)) = some r := H
 have A2 := Aside0.mk A20
 clear A20
 by_cases c3 : t389 = true
 ·subst c3
  have H1 : ((tithebarnlaw17_early.f l0).bind fun t390 => ((levels_Pick.f t390).bind fun bt393 => (if bt393.2.2.2.2 = true then ((levels_Disjoint.f k t390).bind fun t401 => (if t401 = true then ((tithebarnlaw17_unlike.f k t390).bind fun t402 => (tithebarnlaw17_LevelsKeeps.j0 k t390 (!t402) bt393.1 bt393.2.1 bt393.2.2.1 bt393.2.2.2.1)) else (tithebarnlaw17_LevelsKeeps.j0 k t390 true bt393.1 bt393.2.1 bt393.2.2.1 bt393.2.2.2.1))) else (tithebarnlaw17_LevelsKeeps.j0 k t390 true bt393.1 bt393.2.1 bt393.2.2.1 bt393.2.2.2.1)))) = some r := by rw [if_pos rfl] at H; exact H
  clear H
  have H := H1
  clear H1
  replace H := Option.bind_eq_some_iff.mp H
  obtain ⟨t390, A40, H⟩ := H
  replace H : ((levels_Pick.f t390).bind fun bt393 => (if bt393.2.2.2.2 = true then ((levels_Disjoint.f k t390).bind fun t401 => (if t401 = true then ((tithebarnlaw17_unlike.f k t390).bind fun t402 => (tithebarnlaw17_LevelsKeeps.j0 k t390 (!t402) bt393.1 bt393.2.1 bt393.2.2.1 bt393.2.2.2.1)) else (tithebarnlaw17_LevelsKeeps.j0 k t390 true bt393.1 bt393.2.1 bt393.2.2.1 bt393.2.2.2.1))) else (tithebarnlaw17_LevelsKeeps.j0 k t390 true bt393.1 bt393.2.1 bt393.2.2.1 bt393.2.2.2.1))) = some r := H
  have A4 := Aside0.mk A40
  clear A40
  replace H := Option.bind_eq_some_iff.mp H
  obtain ⟨⟨t393, t394, t395, t398, t399⟩, A50, H⟩ := H
  replace H : (if t399 = true then ((levels_Disjoint.f k t390).bind fun t401 => (if t401 = true then ((tithebarnlaw17_unlike.f k t390).bind fun t402 => (tithebarnlaw17_LevelsKeeps.j0 k t390 (!t402) t393 t394 t395 t398)) else (tithebarnlaw17_LevelsKeeps.j0 k t390 true t393 t394 t395 t398))) else (tithebarnlaw17_LevelsKeeps.j0 k t390 true t393 t394 t395 t398)) = some r := H
  have A5 := Aside0.mk A50
  clear A50
  have HC6 := Aside0.mk H
  clear H
  go_enter Try.func5, Try.ntmps5
  go_upto_region 5 with (first | ((with_reducible refine gate_callee (f := 8) rfl ?_); refine goesL_ (some 11) rfl rfl Try.func8 (by kernel_rfl) rfl #[] rfl (by (try simp only [List.map_toArray, List.map_cons, List.map_nil]); first | done | rfl | (simp only [List.length_drop, List.length_take]; rfl)) ?_; (with_reducible refine (tithebarnlaw17_lives_c.calls k  true _ (by first | exact A2.out | (have z_ := A2.out; (try rw [← Nbq43.out] at z_); (try rw [← Nbq46.out] at z_); exact z_))).mono ?_); rintro e w7 ⟨rfl, hb⟩; refine ⟨_, rfl, ?_⟩; have n0_ := Aside0.mk (below_step (by with_reducible repeat first | exact HB.out | apply below_alloc | apply pw_below_drewN | apply below_drew1) hb); clear HB; have HB := n0_; clear n0_; (try clear hb); (try clear hb2); (try clear hk); (try clear hi)) | ((with_reducible refine gate_callee (f := 9) rfl ?_); refine goesL_ (some 14) rfl rfl Try.func9 (by kernel_rfl) rfl #[.slice A0 l0.length c0] rfl (by (try simp only [List.map_toArray, List.map_cons, List.map_nil]); first | done | rfl | (simp only [List.length_drop, List.length_take]; rfl)) ?_; (with_reducible refine (tithebarnlaw17_early.calls (fun k_ => k_ < w.heap.size) _ _ l0 t390 _ ?side1 (by first | exact A4.out | (have z_ := A4.out; (try rw [← Nbq43.out] at z_); (try rw [← Nbq46.out] at z_); exact z_))).mono ?_); (case side1 => exact Kd.V_mk HC0.out (Kd.F_below (Kd.C_F k38_heap HR0.out) (by with_reducible repeat first | exact HB.out | apply below_alloc | apply pw_below_drewN | apply below_drew1))); rintro e w8 ⟨v391, rfl, ho0, hb⟩; refine ⟨_, rfl, ?_⟩; have n0_ := Aside0.mk (Kd.V_lower (Kd.V_mono (ok' := fun k_ => True) ho0 (fun k_ hk_ => trivial)) (below_size (by with_reducible repeat first | exact HB.out | apply below_alloc | apply pw_below_drewN | apply below_drew1))); have n1_ := Aside0.mk (below_step (by with_reducible repeat first | exact HB.out | apply below_alloc | apply pw_below_drewN | apply below_drew1) hb); clear HB; have HO392 := n0_; have HB := n1_; clear n0_ n1_; (try clear hb); (try clear hb2); (try clear hk); (try clear hi); (try clear ho0); obtain ⟨Ao9, co9, eo9⟩ := Kd.V_slice HO392.out; subst eo9) | ((with_reducible refine gate_callee (f := 10) rfl ?_); refine goesL_ (some 17) rfl rfl Try.func10 (by kernel_rfl) rfl #[.slice Ao9 t390.length co9] rfl (by (try simp only [List.map_toArray, List.map_cons, List.map_nil]); first | done | rfl | (simp only [List.length_drop, List.length_take]; rfl)) ?_; (with_reducible refine (levels_Pick.calls _ _ t390 t393 t394 t395 t398 t399 _ ?side1 ?side2 (by first | exact A5.out | (have z_ := A5.out; (try rw [← Nbq43.out] at z_); (try rw [← Nbq46.out] at z_); exact z_))).mono ?_); (case side1 => repeat (first | exact (Kd.V_reads' HO392.out).2.2 | (with_reducible refine Kd.C_alloc ?_ _) | (with_reducible refine Kd.C_drewN ?_ _) | (with_reducible refine Kd.C_drew ?_))); (case side2 => exact (Kd.V_reads' HO392.out).2.1); rintro e w10 ⟨v396, rfl, ho0, hb⟩; refine ⟨_, rfl, ?_⟩; have n0_ := Aside0.mk (Kd.V_elder' (by (with_reducible repeat (first | apply Kd.V_alloc | apply Kd.V_drewN | apply Kd.V_drew)); exact HO392.out) (Kd.R_base ho0) hb); have n1_ := Aside0.mk (Kd.R_lower ho0 (below_size (by with_reducible repeat first | exact HB.out | apply below_alloc | apply pw_below_drewN | apply below_drew1))); have n2_ := Aside0.mk (below_step (by with_reducible repeat first | exact HB.out | apply below_alloc | apply pw_below_drewN | apply below_drew1) hb); clear HO392; clear HB; have HO392 := n0_; have HO397 := n1_; have HB := n2_; clear n0_ n1_ n2_; (try clear hb); (try clear hb2); (try clear hk); (try clear hi); (try clear ho0)) | ((with_reducible refine gate_dst (N := 3) rfl ?_); (try (refine gate_guard (by rfl) ?_; dsimp only)); refine box_event ?hg (N := 3) ?hd (cs := #[.int .i64 0, .int .i64 0, .slice none 0 0, .bool false]) (t := 27) ?hr ?_; (case hd => rfl); (case hg => rfl); (case hr => first | (go_simp; done) | (go_simp; rfl)); intro gb400 hg w11 hbox hb; have n0_ := Aside0.mk (Kd.V_below (Kd.V_elderB (by (with_reducible repeat (first | apply Kd.V_alloc | apply Kd.V_drewN | apply Kd.V_drew)); exact HO392.out) gb400 (Nat.le_of_eq hg.symm)) hb); have n1_ := Aside0.mk (Kd.R_below (by (with_reducible repeat (first | apply Kd.R_alloc | apply Kd.R_drewN | apply Kd.R_drew)); exact HO397.out) hb); have n2_ := Aside0.mk (below_step (by with_reducible repeat first | exact HB.out | apply below_alloc | apply pw_below_drewN | apply below_drew1) hb); have n3_ := Aside0.mk (hbox); have n4_ := Aside0.mk ((by rw [hg]; exact (below_size (by with_reducible repeat first | exact HB.out | apply below_alloc | apply pw_below_drewN | apply below_drew1)) : w.heap.size ≤ gb400)); have n5_ := Aside0.mk ((by rw [hg]; exact (below_size (by with_reducible repeat first | exact HB.out | apply below_alloc | apply pw_below_drewN | apply below_drew1)) : w.heap.size ≤ gb400)); clear HO392; clear HO397; clear HB; have HO392 := n0_; have HO397 := n1_; have HB := n2_; have BK400 := n3_; have GW400 := n4_; have GE400 := n5_; clear n0_ n1_ n2_ n3_ n4_ n5_; clear hb hbox hg; obtain ⟨hcz12_0, hcz12_1, hcz12_2, hcz12_3⟩ := bc4 BK400.out; obtain ⟨hfz12_0, hfz12_1, hfz12_2, hfz12_3⟩ := bf4 BK400.out; obtain ⟨Ao13, co13, eo13⟩ := Kd.R_slice HO397.out; subst eo13))
  (try simp only [Act.put, List.setIfInBounds_toArray, List.set_cons_zero, List.set_cons_succ])
  go_cut [31] (fun v31 wc => ∃ (kq : Nat) (x31_5 : Bool), v31 = .bool x31_5 ∧ Aside0 (tithebarnlaw17_LevelsKeeps.j0 kq t390 x31_5 t393 t394 t395 t398 = some r) ∧ Aside0 (kq ≤ k) ∧ Aside0 (Kd.V k38 38 wc w.heap.size (fun k_ => some k_ ≠ ((.slice Ao13 t395.length co13) : Value).ownBlock ∧ k_ ≠ gb400) (.slice Ao9 t390.length co9) t390) ∧ Aside0 (Kd.R (Kd.int .i64) 3 wc w.heap.size (fun _ => True) (.slice Ao13 t395.length co13) t395) ∧ Aside0 (wc.heap[gb400]? = some (.cells #[.int .i64 t393, .int .i64 t394, (.slice Ao13 t395.length co13), .bool t398] 27 (0, 0))) ∧ Aside0 (Below w.heap.size w wc))
  case first =>
   have H := HC6.out
   clear HC6
   by_cases c14 : t399 = true
   ·subst c14
    have H1 : ((levels_Disjoint.f k t390).bind fun t401 => (if t401 = true then ((tithebarnlaw17_unlike.f k t390).bind fun t402 => (tithebarnlaw17_LevelsKeeps.j0 k t390 (!t402) t393 t394 t395 t398)) else (tithebarnlaw17_LevelsKeeps.j0 k t390 true t393 t394 t395 t398))) = some r := by rw [if_pos rfl] at H; exact H
    clear H
    have H := H1
    clear H1
    replace H := Option.bind_eq_some_iff.mp H
    obtain ⟨t401, A150, H⟩ := H
    replace H : (if t401 = true then ((tithebarnlaw17_unlike.f k t390).bind fun t402 => (tithebarnlaw17_LevelsKeeps.j0 k t390 (!t402) t393 t394 t395 t398)) else (tithebarnlaw17_LevelsKeeps.j0 k t390 true t393 t394 t395 t398)) = some r := H
    have A15 := Aside0.mk A150
    clear A150
    by_cases c16 : t401 = true
    ·subst c16
     have H1 : ((tithebarnlaw17_unlike.f k t390).bind fun t402 => (tithebarnlaw17_LevelsKeeps.j0 k t390 (!t402) t393 t394 t395 t398)) = some r := by rw [if_pos rfl] at H; exact H
     clear H
     have H := H1
     clear H1
     replace H := Option.bind_eq_some_iff.mp H
     obtain ⟨t402, A170, H⟩ := H
     replace H : (tithebarnlaw17_LevelsKeeps.j0 k t390 (!t402) t393 t394 t395 t398) = some r := H
     have A17 := Aside0.mk A170
     clear A170
     have H' := Aside0.mk H
     clear H
     go_wp2_with (first | (go_at_call 13; (with_reducible refine (levels_Disjoint.calls k _ _ t390 true _ ?side1 ?side2 (by first | exact A15.out | (have z_ := A15.out; (try rw [← Nbq43.out] at z_); (try rw [← Nbq46.out] at z_); exact z_))).mono ?_); (case side1 => refine (Kd.V_reads' (e := 38) (base := w.heap.size) (ok := fun k_ => ((True ∧ some k_ ≠ (.slice Ao13 t395.length co13 : Value).ownBlock) ∧ k_ ≠ gb400)) (n := t390.length) (c := co9) ?_).2.2; exact (by (with_reducible repeat (first | apply Kd.V_alloc | apply Kd.V_drewN | apply Kd.V_drew)); exact (Kd.V_mono (Kd.V_far (p := ⟨gb400, 3, none⟩) (Kd.V_far (p := ⟨gb400, 2, none⟩) (Kd.V_far (p := ⟨gb400, 1, none⟩) (Kd.V_far (p := ⟨gb400, 0, none⟩) (Kd.V_mono HO392.out (fun k_ hk => (⟨hk, hk.2⟩ : _ ∧ k_ ≠ gb400))) (fun _ hk => hk.2) (.int .i64 t393)) (fun _ hk => hk.2) (.int .i64 t394)) (fun _ hk => hk.2) (.slice Ao13 t395.length co13)) (fun _ hk => hk.2) (.bool t398)) (fun _ h_ => h_.1)))); (case side2 => exact (Kd.V_reads' HO392.out).2.1); rintro e w18 ⟨rfl, hb⟩; have n0_ := Aside0.mk (Kd.V_below (by (with_reducible repeat (first | apply Kd.V_alloc | apply Kd.V_drewN | apply Kd.V_drew)); exact (Kd.V_mono (Kd.V_far (p := ⟨gb400, 3, none⟩) (Kd.V_far (p := ⟨gb400, 2, none⟩) (Kd.V_far (p := ⟨gb400, 1, none⟩) (Kd.V_far (p := ⟨gb400, 0, none⟩) (Kd.V_mono HO392.out (fun k_ hk => (⟨hk, hk.2⟩ : _ ∧ k_ ≠ gb400))) (fun _ hk => hk.2) (.int .i64 t393)) (fun _ hk => hk.2) (.int .i64 t394)) (fun _ hk => hk.2) (.slice Ao13 t395.length co13)) (fun _ hk => hk.2) (.bool t398)) (fun _ h_ => h_.1))) hb); have n1_ := Aside0.mk (Kd.R_below (by (with_reducible repeat (first | apply Kd.R_alloc | apply Kd.R_drewN | apply Kd.R_drew)); exact (Kd.R_mono (Kd.R_far (p := ⟨gb400, 3, none⟩) (Kd.R_far (p := ⟨gb400, 2, none⟩) (Kd.R_far (p := ⟨gb400, 1, none⟩) (Kd.R_far (p := ⟨gb400, 0, none⟩) (Kd.R_types HO397.out BK400.out (by decide)) (fun _ hk => hk.2) (.int .i64 t393)) (fun _ hk => hk.2) (.int .i64 t394)) (fun _ hk => hk.2) (.slice Ao13 t395.length co13)) (fun _ hk => hk.2) (.bool t398)) (fun _ h_ => h_.1))) hb); have n2_ := Aside0.mk (blk_below (g := gb400) (o := .cells #[.int .i64 t393, .int .i64 t394, .slice Ao13 t395.length co13, .bool t398] 27 (0, 0)) (by refine blk_put (cs := #[.int .i64 t393, .int .i64 t394, .slice Ao13 t395.length co13, .bool false]) ?_ 3 _ rfl; refine blk_put (cs := #[.int .i64 t393, .int .i64 t394, .slice none 0 0, .bool false]) ?_ 2 _ rfl; refine blk_put (cs := #[.int .i64 t393, .int .i64 0, .slice none 0 0, .bool false]) ?_ 1 _ rfl; refine blk_put (cs := #[.int .i64 0, .int .i64 0, .slice none 0 0, .bool false]) ?_ 0 _ rfl; (with_reducible repeat (first | refine blk_drewN ?_ _ | refine blk_drew ?_ | refine blk_alloc ?_ _)); exact BK400.out) hb); have n3_ := Aside0.mk (below_step (by with_reducible repeat first | exact HB.out | apply below_alloc | apply pw_below_drewN | apply below_drew1 | refine below_set ?_ GE400.out) hb); clear HO392; clear HO397; clear BK400; clear HB; have HO392 := n0_; have HO397 := n1_; have BK400 := n2_; have HB := n3_; clear n0_ n1_ n2_ n3_; (try clear hb); (try clear hb2); (try clear hk); (try clear hi)) | (go_at_call 17; (with_reducible refine (tithebarnlaw17_unlike.calls k _ _ t390 t402 _ ?side1 ?side2 (by first | exact A17.out | (have z_ := A17.out; (try rw [← Nbq43.out] at z_); (try rw [← Nbq46.out] at z_); exact z_))).mono ?_); (case side1 => repeat (first | exact (Kd.V_reads' HO392.out).2.2 | (with_reducible refine Kd.C_alloc ?_ _) | (with_reducible refine Kd.C_drewN ?_ _) | (with_reducible refine Kd.C_drew ?_))); (case side2 => exact (Kd.V_reads' HO392.out).2.1); rintro e w' ⟨rfl, ⟨nd, rfl⟩⟩))
     go_meet
     case rel => exact ⟨_, (!t402), (by first | rfl | (simp; done) | (simp [*]; done)), H', ⟨by first | omega | exact Nat.le_refl _⟩, ⟨by (with_reducible repeat (first | apply Kd.V_alloc | apply Kd.V_drewN | apply Kd.V_drew)); exact Kd.V_mono HO392.out (fun _ hk => ⟨hk.1.2, hk.2⟩)⟩, ⟨by (with_reducible repeat (first | apply Kd.R_alloc | apply Kd.R_drewN | apply Kd.R_drew)); exact HO397.out⟩, ⟨by (with_reducible repeat (first | refine blk_drewN ?_ _ | refine blk_drew ?_ | refine blk_alloc ?_ _)); exact BK400.out⟩, ⟨by repeat (first | (with_reducible first | exact HB.out | apply below_alloc | apply pw_below_drewN | apply below_drew1 | refine below_set ?_ GE400.out) | exact HB.out)⟩⟩
    ·replace c16 := Bool.eq_false_iff.mpr c16
     subst c16
     have H1 : (tithebarnlaw17_LevelsKeeps.j0 k t390 true t393 t394 t395 t398) = some r := by rw [if_neg (show ¬ (false = true) by decide)] at H; exact H
     clear H
     have H := H1
     clear H1
     have H' := Aside0.mk H
     clear H
     go_wp2_with (first | (go_at_call 13; (with_reducible refine (levels_Disjoint.calls k _ _ t390 false _ ?side1 ?side2 (by first | exact A15.out | (have z_ := A15.out; (try rw [← Nbq43.out] at z_); (try rw [← Nbq46.out] at z_); exact z_))).mono ?_); (case side1 => refine (Kd.V_reads' (e := 38) (base := w.heap.size) (ok := fun k_ => ((True ∧ some k_ ≠ (.slice Ao13 t395.length co13 : Value).ownBlock) ∧ k_ ≠ gb400)) (n := t390.length) (c := co9) ?_).2.2; exact (by (with_reducible repeat (first | apply Kd.V_alloc | apply Kd.V_drewN | apply Kd.V_drew)); exact (Kd.V_mono (Kd.V_far (p := ⟨gb400, 3, none⟩) (Kd.V_far (p := ⟨gb400, 2, none⟩) (Kd.V_far (p := ⟨gb400, 1, none⟩) (Kd.V_far (p := ⟨gb400, 0, none⟩) (Kd.V_mono HO392.out (fun k_ hk => (⟨hk, hk.2⟩ : _ ∧ k_ ≠ gb400))) (fun _ hk => hk.2) (.int .i64 t393)) (fun _ hk => hk.2) (.int .i64 t394)) (fun _ hk => hk.2) (.slice Ao13 t395.length co13)) (fun _ hk => hk.2) (.bool t398)) (fun _ h_ => h_.1)))); (case side2 => exact (Kd.V_reads' HO392.out).2.1); rintro e w19 ⟨rfl, hb⟩; have n0_ := Aside0.mk (Kd.V_below (by (with_reducible repeat (first | apply Kd.V_alloc | apply Kd.V_drewN | apply Kd.V_drew)); exact (Kd.V_mono (Kd.V_far (p := ⟨gb400, 3, none⟩) (Kd.V_far (p := ⟨gb400, 2, none⟩) (Kd.V_far (p := ⟨gb400, 1, none⟩) (Kd.V_far (p := ⟨gb400, 0, none⟩) (Kd.V_mono HO392.out (fun k_ hk => (⟨hk, hk.2⟩ : _ ∧ k_ ≠ gb400))) (fun _ hk => hk.2) (.int .i64 t393)) (fun _ hk => hk.2) (.int .i64 t394)) (fun _ hk => hk.2) (.slice Ao13 t395.length co13)) (fun _ hk => hk.2) (.bool t398)) (fun _ h_ => h_.1))) hb); have n1_ := Aside0.mk (Kd.R_below (by (with_reducible repeat (first | apply Kd.R_alloc | apply Kd.R_drewN | apply Kd.R_drew)); exact (Kd.R_mono (Kd.R_far (p := ⟨gb400, 3, none⟩) (Kd.R_far (p := ⟨gb400, 2, none⟩) (Kd.R_far (p := ⟨gb400, 1, none⟩) (Kd.R_far (p := ⟨gb400, 0, none⟩) (Kd.R_types HO397.out BK400.out (by decide)) (fun _ hk => hk.2) (.int .i64 t393)) (fun _ hk => hk.2) (.int .i64 t394)) (fun _ hk => hk.2) (.slice Ao13 t395.length co13)) (fun _ hk => hk.2) (.bool t398)) (fun _ h_ => h_.1))) hb); have n2_ := Aside0.mk (blk_below (g := gb400) (o := .cells #[.int .i64 t393, .int .i64 t394, .slice Ao13 t395.length co13, .bool t398] 27 (0, 0)) (by refine blk_put (cs := #[.int .i64 t393, .int .i64 t394, .slice Ao13 t395.length co13, .bool false]) ?_ 3 _ rfl; refine blk_put (cs := #[.int .i64 t393, .int .i64 t394, .slice none 0 0, .bool false]) ?_ 2 _ rfl; refine blk_put (cs := #[.int .i64 t393, .int .i64 0, .slice none 0 0, .bool false]) ?_ 1 _ rfl; refine blk_put (cs := #[.int .i64 0, .int .i64 0, .slice none 0 0, .bool false]) ?_ 0 _ rfl; (with_reducible repeat (first | refine blk_drewN ?_ _ | refine blk_drew ?_ | refine blk_alloc ?_ _)); exact BK400.out) hb); have n3_ := Aside0.mk (below_step (by with_reducible repeat first | exact HB.out | apply below_alloc | apply pw_below_drewN | apply below_drew1 | refine below_set ?_ GE400.out) hb); clear HO392; clear HO397; clear BK400; clear HB; have HO392 := n0_; have HO397 := n1_; have BK400 := n2_; have HB := n3_; clear n0_ n1_ n2_ n3_; (try clear hb); (try clear hb2); (try clear hk); (try clear hi)))
     go_meet
     case rel => exact ⟨_, (true), (by first | rfl | (simp; done) | (simp [*]; done)), H', ⟨by first | omega | exact Nat.le_refl _⟩, ⟨by (with_reducible repeat (first | apply Kd.V_alloc | apply Kd.V_drewN | apply Kd.V_drew)); exact Kd.V_mono HO392.out (fun _ hk => ⟨hk.1.2, hk.2⟩)⟩, ⟨by (with_reducible repeat (first | apply Kd.R_alloc | apply Kd.R_drewN | apply Kd.R_drew)); exact HO397.out⟩, ⟨by (with_reducible repeat (first | refine blk_drewN ?_ _ | refine blk_drew ?_ | refine blk_alloc ?_ _)); exact BK400.out⟩, ⟨by repeat (first | (with_reducible first | exact HB.out | apply below_alloc | apply pw_below_drewN | apply below_drew1 | refine below_set ?_ GE400.out) | exact HB.out)⟩⟩
   ·replace c14 := Bool.eq_false_iff.mpr c14
    subst c14
    have H1 : (tithebarnlaw17_LevelsKeeps.j0 k t390 true t393 t394 t395 t398) = some r := by rw [if_neg (show ¬ (false = true) by decide)] at H; exact H
    clear H
    have H := H1
    clear H1
    have H' := Aside0.mk H
    clear H
    go_wp2
    go_meet
    case rel => exact ⟨_, (true), (by first | rfl | (simp; done) | (simp [*]; done)), H', ⟨by first | omega | exact Nat.le_refl _⟩, ⟨by (with_reducible repeat (first | apply Kd.V_alloc | apply Kd.V_drewN | apply Kd.V_drew)); (have hq_ := Kd.V_mono HO392.out (fun k_ hk => (⟨hk, hk.2⟩ : _ ∧ k_ ≠ gb400)); have hq_ := Kd.V_far (p := ⟨gb400, 0, none⟩) hq_ (fun _ hk => hk.2) (.int .i64 t393); have hq_ := Kd.V_far (p := ⟨gb400, 1, none⟩) hq_ (fun _ hk => hk.2) (.int .i64 t394); have hq_ := Kd.V_far (p := ⟨gb400, 2, none⟩) hq_ (fun _ hk => hk.2) (.slice Ao13 t395.length co13); have hq_ := Kd.V_far (p := ⟨gb400, 3, none⟩) hq_ (fun _ hk => hk.2) (.bool t398); exact Kd.V_mono hq_ (fun _ hk => ⟨hk.1.1.2, hk.1.2⟩))⟩, ⟨by (with_reducible repeat (first | apply Kd.R_alloc | apply Kd.R_drewN | apply Kd.R_drew)); (have hq_ := Kd.R_types HO397.out BK400.out (by decide); have hq_ := Kd.R_far (p := ⟨gb400, 0, none⟩) hq_ (fun _ hk => hk.2) (.int .i64 t393); have hq_ := Kd.R_far (p := ⟨gb400, 1, none⟩) hq_ (fun _ hk => hk.2) (.int .i64 t394); have hq_ := Kd.R_far (p := ⟨gb400, 2, none⟩) hq_ (fun _ hk => hk.2) (.slice Ao13 t395.length co13); have hq_ := Kd.R_far (p := ⟨gb400, 3, none⟩) hq_ (fun _ hk => hk.2) (.bool t398); exact Kd.R_mono hq_ (fun _ hk => trivial))⟩, ⟨by (with_reducible repeat refine blk_drewN ?_ _); refine blk_put (cs := #[.int .i64 t393, .int .i64 t394, .slice Ao13 t395.length co13, .bool false]) ?_ 3 _ rfl; refine blk_put (cs := #[.int .i64 t393, .int .i64 t394, .slice none 0 0, .bool false]) ?_ 2 _ rfl; refine blk_put (cs := #[.int .i64 t393, .int .i64 0, .slice none 0 0, .bool false]) ?_ 1 _ rfl; refine blk_put (cs := #[.int .i64 0, .int .i64 0, .slice none 0 0, .bool false]) ?_ 0 _ rfl; (with_reducible repeat (first | refine blk_drewN ?_ _ | refine blk_drew ?_ | refine blk_alloc ?_ _)); exact BK400.out⟩, ⟨by repeat (first | (with_reducible first | exact HB.out | apply below_alloc | apply pw_below_drewN | apply below_drew1 | refine below_set ?_ GE400.out) | exact HB.out)⟩⟩
  case rest =>
   clear HC6
   try clear c1
   try clear p2
   try clear c3
   try clear c5
   try clear c8
   try clear c9
   try clear c10
   try clear c14
   try clear c16
   try clear hcz12_0 hcz12_1 hcz12_2 hcz12_3
   try clear hfz12_0 hfz12_1 hfz12_2 hfz12_3
   obtain ⟨kq, x31_5, rfl, HA, HJ5, HO_0, HO_401002, BK400, HB⟩ := hcut
   cases kq with
   | zero => exact absurd HA.out (by simp [tithebarnlaw17_LevelsKeeps.j0])
   | succ kj5 =>
    have H := HA.out
    clear HA
    simp only [tithebarnlaw17_LevelsKeeps.j0] at H
    by_cases c20 : x31_5 = true
    ·subst c20
     have H1 : (some true) = some r := by rw [if_pos rfl] at H; exact H
     clear H
     have H := H1
     clear H1
     obtain rfl := Option.some.inj H
     go_wp2
     go_ret
     exact ⟨by first | rfl | (simp [errW_none, errW_some] <;> rfl) | (simp [*, errW_none, errW_some] <;> rfl), by repeat (first | (with_reducible first | exact HB.out | apply below_alloc | apply pw_below_drewN | apply below_drew1 | refine below_set ?_ GE400.out) | exact HB.out)⟩
    ·replace c20 := Bool.eq_false_iff.mpr c20
     subst c20
     have H1 : (tithebarnlaw17_LevelsKeeps.l0 kj5 t390 ([] : List (S38)) true 0 t393 t394 t395 t398 0 t394 false 0 (⟨#[]⟩ : ByteArray) false 0 (⟨#[]⟩ : ByteArray)) = some r := by rw [if_neg (show ¬ (false = true) by decide)] at H; exact H
     clear H
     have H := H1
     clear H1
     have H' := Aside0.mk H
     clear H
     obtain ⟨hcz21_0, hcz21_1, hcz21_2, hcz21_3⟩ := bc4 BK400.out
     obtain ⟨hfz21_0, hfz21_1, hfz21_2, hfz21_3⟩ := bf4 BK400.out
     go_wp2_with (first | ((with_reducible refine gate_dst (N := 5) rfl ?_); (try (refine gate_guard (by rfl) ?_; dsimp only)); refine box_event ?hg (N := 5) ?hd (cs := #[.int .i64 0, .int .i64 0, .bool false, .int .i64 0, .string (⟨#[]⟩ : ByteArray), .bool false, .int .i64 0, .string (⟨#[]⟩ : ByteArray)]) (t := 38) ?hr ?_; (case hd => rfl); (case hg => rfl); (case hr => first | (go_simp; done) | (go_simp; rfl)); intro gb403 hg w22 hbox hb; have n0_ := Aside0.mk (Kd.V_below (Kd.V_elderB (by (with_reducible repeat (first | apply Kd.V_alloc | apply Kd.V_drewN | apply Kd.V_drew)); exact HO_0.out) gb403 (Nat.le_of_eq hg.symm)) hb); have n1_ := Aside0.mk (Kd.R_below (by (with_reducible repeat (first | apply Kd.R_alloc | apply Kd.R_drewN | apply Kd.R_drew)); exact HO_401002.out) hb); have n2_ := Aside0.mk (blk_below (g := gb400) (o := .cells #[.int .i64 t393, .int .i64 t394, .slice Ao13 t395.length co13, .bool t398] 27 (0, 0)) (by (with_reducible repeat (first | refine blk_drewN ?_ _ | refine blk_drew ?_ | refine blk_alloc ?_ _)); exact BK400.out) hb); have n3_ := Aside0.mk (below_step (by with_reducible repeat first | exact HB.out | apply below_alloc | apply pw_below_drewN | apply below_drew1 | refine below_set ?_ GE400.out) hb); have n4_ := Aside0.mk (hbox); have n5_ := Aside0.mk ((by rw [hg]; exact (below_size (by with_reducible repeat first | exact HB.out | apply below_alloc | apply pw_below_drewN | apply below_drew1 | refine below_set ?_ GE400.out)) : w.heap.size ≤ gb403)); have n6_ := Aside0.mk ((by rw [hg]; exact (below_size (by with_reducible repeat first | exact HB.out | apply below_alloc | apply pw_below_drewN | apply below_drew1 | refine below_set ?_ GE400.out)) : w.heap.size ≤ gb403)); have n7_ := Aside0.mk ((by rw [hg]; exact Nat.ne_of_lt (blk_lt (g := gb400) (o := .cells #[.int .i64 t393, .int .i64 t394, .slice Ao13 t395.length co13, .bool t398] 27 (0, 0)) (by (with_reducible repeat (first | refine blk_drewN ?_ _ | refine blk_drew ?_ | refine blk_alloc ?_ _)); exact BK400.out)) : gb400 ≠ gb403)); have n8_ := Aside0.mk ((by rw [hg]; exact Nat.ne_of_gt (blk_lt (g := gb400) (o := .cells #[.int .i64 t393, .int .i64 t394, .slice Ao13 t395.length co13, .bool t398] 27 (0, 0)) (by (with_reducible repeat (first | refine blk_drewN ?_ _ | refine blk_drew ?_ | refine blk_alloc ?_ _)); exact BK400.out)) : gb403 ≠ gb400)); clear HO_0; clear HO_401002; clear BK400; clear HB; have HO_0 := n0_; have HO_401002 := n1_; have BK400 := n2_; have HB := n3_; have BK403 := n4_; have GW403 := n5_; have GE403 := n6_; have NB400_403 := n7_; have NB403_400 := n8_; clear n0_ n1_ n2_ n3_ n4_ n5_ n6_ n7_ n8_; clear hb hbox hg; have hnb23 := NB403_400.out; have hnc23 := NB400_403.out; obtain ⟨hcz24_0, hcz24_1, hcz24_2, hcz24_3, hcz24_4, hcz24_5, hcz24_6, hcz24_7⟩ := bc8 BK403.out; obtain ⟨hfz24_0, hfz24_1, hfz24_2, hfz24_3, hfz24_4, hfz24_5, hfz24_6, hfz24_7⟩ := bf8 BK403.out))
     go_loopg [6, 7, 8] kj5 (fun kq v6 v7 v8 w' => ∃ (x6_2 : List (S38)) (x7_2 : Bool) (x8_2 : Int) (x404000_2 : Int) (x404001_2 : Int) (x404002_2 : Bool) (x404003_2 : Int) (x404004_2 : ByteArray) (x404005_2 : Bool) (x404006_2 : Int) (x404007_2 : ByteArray), v7 = .bool x7_2 ∧ v8 = .int .i64 x8_2 ∧ Aside0 (tithebarnlaw17_LevelsKeeps.l0 kq t390 x6_2 x7_2 x8_2 t393 t394 t395 t398 x404000_2 x404001_2 x404002_2 x404003_2 x404004_2 x404005_2 x404006_2 x404007_2 = some r) ∧ Aside0 (kq ≤ kj5) ∧ Aside0 (Kd.V k38 38 w' w.heap.size (fun k_ => some k_ ≠ (v6 : Value).ownBlock ∧ some k_ ≠ ((.slice Ao13 t395.length co13) : Value).ownBlock ∧ k_ ≠ gb400 ∧ k_ ≠ gb403) (.slice Ao9 t390.length co9) t390) ∧ Aside0 (Kd.R k38 38 w' w.heap.size (fun k_ => k_ ≠ gb403) v6 x6_2) ∧ Aside0 (Kd.R (Kd.int .i64) 3 w' w.heap.size (fun _ => True) (.slice Ao13 t395.length co13) t395) ∧ Aside0 (w'.heap[gb400]? = some (.cells #[.int .i64 t393, .int .i64 t394, (.slice Ao13 t395.length co13), .bool t398] 27 (0, 0))) ∧ Aside0 (w'.heap[gb403]? = some (.cells #[.int .i64 x404000_2, .int .i64 x404001_2, .bool x404002_2, .int .i64 x404003_2, .string x404004_2, .bool x404005_2, .int .i64 x404006_2, .string x404007_2] 38 (0, 0))) ∧ Aside0 (Below w.heap.size w w'))
     case atStart => exact ⟨(([] : List (S38))), (true), (0), (0), (t394), (false), (0), ((⟨#[]⟩ : ByteArray)), (false), (0), ((⟨#[]⟩ : ByteArray)), (by first | rfl | (simp; done) | (simp [*]; done)), (by first | rfl | (simp; done) | (simp [*]; done)), H', ⟨Nat.le_refl _⟩, ⟨by (with_reducible repeat (first | apply Kd.V_alloc | apply Kd.V_drewN | apply Kd.V_drew)); (have hq_ := Kd.V_mono HO_0.out (fun k_ hk => (⟨hk, hk.2⟩ : _ ∧ k_ ≠ gb403)); have hq_ := Kd.V_far (p := ⟨gb403, 0, none⟩) hq_ (fun _ hk => hk.2) (.int .i64 0); have hq_ := Kd.V_far (p := ⟨gb403, 1, none⟩) hq_ (fun _ hk => hk.2) (.int .i64 t394); have hq_ := Kd.V_far (p := ⟨gb403, 2, none⟩) hq_ (fun _ hk => hk.2) (.bool false); have hq_ := Kd.V_far (p := ⟨gb403, 3, none⟩) hq_ (fun _ hk => hk.2) (.int .i64 0); have hq_ := Kd.V_far (p := ⟨gb403, 4, none⟩) hq_ (fun _ hk => hk.2) (.string (⟨#[]⟩ : ByteArray)); have hq_ := Kd.V_far (p := ⟨gb403, 5, none⟩) hq_ (fun _ hk => hk.2) (.bool false); have hq_ := Kd.V_far (p := ⟨gb403, 6, none⟩) hq_ (fun _ hk => hk.2) (.int .i64 0); have hq_ := Kd.V_far (p := ⟨gb403, 7, none⟩) hq_ (fun _ hk => hk.2) (.string (⟨#[]⟩ : ByteArray)); exact Kd.V_mono hq_ (fun _ hk => ⟨(by simp [Value.ownBlock]), ⟨hk.1.1.1, ⟨hk.1.1.2, hk.1.2⟩⟩⟩))⟩, ⟨by first | exact Kd.R_nil _ _ _ _ _ | exact Kd.N_nil _ _ _ _ _ | exact Kd.V_nil _ _ _ _ _ | exact Kd.Q_nil _ _ _ _ _ | exact Kd.S_nil _ _ _ _ _⟩, ⟨by (with_reducible repeat (first | apply Kd.R_alloc | apply Kd.R_drewN | apply Kd.R_drew)); (have hq_ := Kd.R_types HO_401002.out BK403.out (by decide); have hq_ := Kd.R_far (p := ⟨gb403, 0, none⟩) hq_ (fun _ hk => hk.2) (.int .i64 0); have hq_ := Kd.R_far (p := ⟨gb403, 1, none⟩) hq_ (fun _ hk => hk.2) (.int .i64 t394); have hq_ := Kd.R_far (p := ⟨gb403, 2, none⟩) hq_ (fun _ hk => hk.2) (.bool false); have hq_ := Kd.R_far (p := ⟨gb403, 3, none⟩) hq_ (fun _ hk => hk.2) (.int .i64 0); have hq_ := Kd.R_far (p := ⟨gb403, 4, none⟩) hq_ (fun _ hk => hk.2) (.string (⟨#[]⟩ : ByteArray)); have hq_ := Kd.R_far (p := ⟨gb403, 5, none⟩) hq_ (fun _ hk => hk.2) (.bool false); have hq_ := Kd.R_far (p := ⟨gb403, 6, none⟩) hq_ (fun _ hk => hk.2) (.int .i64 0); have hq_ := Kd.R_far (p := ⟨gb403, 7, none⟩) hq_ (fun _ hk => hk.2) (.string (⟨#[]⟩ : ByteArray)); exact Kd.R_mono hq_ (fun _ hk => trivial))⟩, ⟨by (with_reducible repeat refine blk_drewN ?_ _); (iterate 8 (refine blk_far ?_ NB400_403.out _)); (with_reducible repeat (first | refine blk_drewN ?_ _ | refine blk_drew ?_ | refine blk_alloc ?_ _)); exact BK400.out⟩, ⟨by (with_reducible repeat refine blk_drewN ?_ _); refine blk_put (cs := #[.int .i64 0, .int .i64 t394, .bool false, .int .i64 0, .string (⟨#[]⟩ : ByteArray), .bool false, .int .i64 0, .string (⟨#[]⟩ : ByteArray)]) ?_ 7 _ rfl; refine blk_put (cs := #[.int .i64 0, .int .i64 t394, .bool false, .int .i64 0, .string (⟨#[]⟩ : ByteArray), .bool false, .int .i64 0, .string (⟨#[]⟩ : ByteArray)]) ?_ 6 _ rfl; refine blk_put (cs := #[.int .i64 0, .int .i64 t394, .bool false, .int .i64 0, .string (⟨#[]⟩ : ByteArray), .bool false, .int .i64 0, .string (⟨#[]⟩ : ByteArray)]) ?_ 5 _ rfl; refine blk_put (cs := #[.int .i64 0, .int .i64 t394, .bool false, .int .i64 0, .string (⟨#[]⟩ : ByteArray), .bool false, .int .i64 0, .string (⟨#[]⟩ : ByteArray)]) ?_ 4 _ rfl; refine blk_put (cs := #[.int .i64 0, .int .i64 t394, .bool false, .int .i64 0, .string (⟨#[]⟩ : ByteArray), .bool false, .int .i64 0, .string (⟨#[]⟩ : ByteArray)]) ?_ 3 _ rfl; refine blk_put (cs := #[.int .i64 0, .int .i64 t394, .bool false, .int .i64 0, .string (⟨#[]⟩ : ByteArray), .bool false, .int .i64 0, .string (⟨#[]⟩ : ByteArray)]) ?_ 2 _ rfl; refine blk_put (cs := #[.int .i64 0, .int .i64 0, .bool false, .int .i64 0, .string (⟨#[]⟩ : ByteArray), .bool false, .int .i64 0, .string (⟨#[]⟩ : ByteArray)]) ?_ 1 _ rfl; refine blk_put (cs := #[.int .i64 0, .int .i64 0, .bool false, .int .i64 0, .string (⟨#[]⟩ : ByteArray), .bool false, .int .i64 0, .string (⟨#[]⟩ : ByteArray)]) ?_ 0 _ rfl; (with_reducible repeat (first | refine blk_drewN ?_ _ | refine blk_drew ?_ | refine blk_alloc ?_ _)); exact BK403.out⟩, ⟨by repeat (first | (with_reducible first | exact HB.out | apply below_alloc | apply pw_below_drewN | apply below_drew1 | refine below_set ?_ GE400.out | refine below_set ?_ GE403.out) | exact HB.out)⟩⟩
     case round =>
      clear H'
      try clear c1
      try clear c2
      try clear p2
      try clear c3
      try clear c5
      try clear c8
      try clear c9
      try clear c10
      try clear c14
      try clear c16
      try clear c20
      try clear c23
      try clear hcz12_0 hcz12_1 hcz12_2 hcz12_3
      try clear hcz21_0 hcz21_1 hcz21_2 hcz21_3
      try clear hcz24_0 hcz24_1 hcz24_2 hcz24_3 hcz24_4 hcz24_5 hcz24_6 hcz24_7
      try clear hfz12_0 hfz12_1 hfz12_2 hfz12_3
      try clear hfz21_0 hfz21_1 hfz21_2 hfz21_3
      try clear hfz24_0 hfz24_1 hfz24_2 hfz24_3 hfz24_4 hfz24_5 hfz24_6 hfz24_7
      try clear p2
      obtain ⟨x6_2, x7_2, x8_2, x404000_2, x404001_2, x404002_2, x404003_2, x404004_2, x404005_2, x404006_2, x404007_2, rfl, rfl, HA, HK2, HO_0, HO_6, HO_401002, BK400, BK403, HB⟩ := hrel
      cases gk with
      | zero => exact absurd HA.out (by simp [tithebarnlaw17_LevelsKeeps.l0])
      | succ k2 =>
       have H := HA.out
       clear HA
       simp only [tithebarnlaw17_LevelsKeeps.l0] at H
       by_cases c25 : x8_2 < (t390.length : Int)
       ·rw [if_pos c25] at H
        have c25b0 : decide (x8_2 < (t390.length : Int)) = true := decide_eq_true c25
        clear c25
        have H' := Aside0.mk H
        clear H
        go_wp2
        go_loopg [9, 10] k2 (fun kq v9 v10 w' => ∃ (x9_3 : Bool) (x10_3 : Int), v9 = .bool x9_3 ∧ v10 = .int .i64 x10_3 ∧ Aside0 (tithebarnlaw17_LevelsKeeps.l1 kq t390 x6_2 x7_2 x8_2 x9_3 x10_3 t393 t394 t395 t398 x404000_2 x404001_2 x404002_2 x404003_2 x404004_2 x404005_2 x404006_2 x404007_2 = some r) ∧ Aside0 (kq ≤ k2) ∧ Aside0 (Kd.V k38 38 w' w.heap.size (fun k_ => some k_ ≠ (u6 : Value).ownBlock ∧ some k_ ≠ ((.slice Ao13 t395.length co13) : Value).ownBlock ∧ k_ ≠ gb400 ∧ k_ ≠ gb403) (.slice Ao9 t390.length co9) t390) ∧ Aside0 (Kd.R k38 38 w' w.heap.size (fun k_ => k_ ≠ gb403) u6 x6_2) ∧ Aside0 (Kd.R (Kd.int .i64) 3 w' w.heap.size (fun _ => True) (.slice Ao13 t395.length co13) t395) ∧ Aside0 (w'.heap[gb400]? = some (.cells #[.int .i64 t393, .int .i64 t394, (.slice Ao13 t395.length co13), .bool t398] 27 (0, 0))) ∧ Aside0 (w'.heap[gb403]? = some (.cells #[.int .i64 x404000_2, .int .i64 x404001_2, .bool x404002_2, .int .i64 x404003_2, .string x404004_2, .bool x404005_2, .int .i64 x404006_2, .string x404007_2] 38 (0, 0))) ∧ Aside0 (Below w.heap.size w w'))
        case atStart => exact ⟨(false), (0), (by first | rfl | (simp; done) | (simp [*]; done)), (by first | rfl | (simp; done) | (simp [*]; done)), H', ⟨Nat.le_refl _⟩, ⟨by (with_reducible repeat (first | apply Kd.V_alloc | apply Kd.V_drewN | apply Kd.V_drew)); exact HO_0.out⟩, ⟨by (with_reducible repeat (first | apply Kd.R_alloc | apply Kd.R_drewN | apply Kd.R_drew)); exact HO_6.out⟩, ⟨by (with_reducible repeat (first | apply Kd.R_alloc | apply Kd.R_drewN | apply Kd.R_drew)); exact HO_401002.out⟩, ⟨by (with_reducible repeat (first | refine blk_drewN ?_ _ | refine blk_drew ?_ | refine blk_alloc ?_ _)); exact BK400.out⟩, ⟨by (with_reducible repeat (first | refine blk_drewN ?_ _ | refine blk_drew ?_ | refine blk_alloc ?_ _)); exact BK403.out⟩, ⟨by repeat (first | (with_reducible first | exact HB.out | apply below_alloc | apply pw_below_drewN | apply below_drew1 | refine below_set ?_ GE400.out | refine below_set ?_ GE403.out) | exact HB.out)⟩⟩
        case round =>
         clear H'
         try clear c1
         try clear c2
         try clear p2
         try clear c3
         try clear c5
         try clear c8
         try clear c9
         try clear c10
         try clear c14
         try clear c16
         try clear c20
         try clear c23
         try clear c25
         try clear c25b0
         try clear hcz12_0 hcz12_1 hcz12_2 hcz12_3
         try clear hcz21_0 hcz21_1 hcz21_2 hcz21_3
         try clear hcz24_0 hcz24_1 hcz24_2 hcz24_3 hcz24_4 hcz24_5 hcz24_6 hcz24_7
         try clear hfz12_0 hfz12_1 hfz12_2 hfz12_3
         try clear hfz21_0 hfz21_1 hfz21_2 hfz21_3
         try clear hfz24_0 hfz24_1 hfz24_2 hfz24_3 hfz24_4 hfz24_5 hfz24_6 hfz24_7
         try clear p2
         obtain ⟨x9_3, x10_3, rfl, rfl, HA, HK3, HO_0, HO_6, HO_401002, BK400, BK403, HB⟩ := hrel
         cases gk with
         | zero => exact absurd HA.out (by simp [tithebarnlaw17_LevelsKeeps.l1])
         | succ k3 =>
          have H := HA.out
          clear HA
          simp only [tithebarnlaw17_LevelsKeeps.l1] at H
          by_cases c26 : x10_3 < (t395.length : Int)
          ·rw [if_pos c26] at H
           have c26b0 : decide (x10_3 < (t395.length : Int)) = true := decide_eq_true c26
           clear c26
           by_cases c27 : x9_3 = true
           ·subst c27
            have H1 : (tithebarnlaw17_LevelsKeeps.l1 k3 t390 x6_2 x7_2 x8_2 true (wrap64 (x10_3 + 1)) t393 t394 t395 t398 x404000_2 x404001_2 x404002_2 x404003_2 x404004_2 x404005_2 x404006_2 x404007_2) = some r := by rw [if_pos rfl] at H; exact H
            clear H
            have H := H1
            clear H1
            have H' := Aside0.mk H
            clear H
            have hnb28 := NB400_403.out
            have hnc28 := NB403_400.out
            obtain ⟨hcz29_0, hcz29_1, hcz29_2, hcz29_3⟩ := bc4 BK400.out
            obtain ⟨hfz29_0, hfz29_1, hfz29_2, hfz29_3⟩ := bf4 BK400.out
            try go_wp2
            have n0_ := Aside0.mk (Kd.V_drew HO_0.out)
            have n1_ := Aside0.mk (Kd.R_drew HO_6.out)
            have n2_ := Aside0.mk (Kd.R_drew HO_401002.out)
            have n3_ := Aside0.mk (blk_drew BK400.out)
            have n4_ := Aside0.mk (blk_drew BK403.out)
            have n5_ := Aside0.mk (below_drew1 HB.out)
            clear HO_0
            clear HO_6
            clear HO_401002
            clear BK400
            clear BK403
            clear HB
            have HO_0 := n0_
            have HO_6 := n1_
            have HO_401002 := n2_
            have BK400 := n3_
            have BK403 := n4_
            have HB := n5_
            clear n0_ n1_ n2_ n3_ n4_ n5_
            refine start_ (n := 15) (S := fun w' => True) (ds := []) #[false, false, false, false, false, false, false, false, false, false, false, false, false, false, false] (by kernel_rfl) rfl rfl trivial (fun hHeld => ?_); refine with_tabW tithebarnlaw17_LevelsKeeps.tab17 tithebarnlaw17_LevelsKeeps.bits17 (fun HT_ HW_ => ?_)
            generalize wr.drew = w30 at HO_0 HO_6 HO_401002 BK400 BK403 HB hHeld ⊢
            refine pure_ (i := 0) (N := some 48) (v := ?_) (a' := ?_) #[true, false, false, false, false, false, false, false, false, false, false, false, false, false, false] rfl rfl (any_of HT_.out (by kernel_rfl)) (fun _ _ _ h => h) (Or.inl ⟨by rfl, ?_⟩) ?_ ?_
            rotate_left
            ·intro w'
             go_simp
             with_reducible rfl
            rotate_left
            ·simp only [Act.put, List.setIfInBounds_toArray, List.set_cons_zero, List.set_cons_succ, i64_w, i32_w]
             rfl
            refine pure_ (i := 1) (N := some 49) (v := ?_) (a' := ?_) #[true, true, false, false, false, false, false, false, false, false, false, false, false, false, false] rfl rfl (any_of HT_.out (by kernel_rfl)) (fun _ _ _ h => h) (Or.inl ⟨by rfl, ?_⟩) ?_ ?_
            rotate_left
            ·intro w'
             go_simp
             with_reducible rfl
            rotate_left
            ·simp only [Act.put, List.setIfInBounds_toArray, List.set_cons_zero, List.set_cons_succ, i64_w, i32_w]
             rfl
            refine pure_ (i := 2) (N := some 50) (v := undef) (a' := ?_) #[true, true, true, false, false, false, false, false, false, false, false, false, false, false, false] rfl rfl (any_of HT_.out (by kernel_rfl)) (fun _ _ _ h => h) (Or.inr ⟨by rfl, rfl⟩) ?_ ?_
            rotate_left
            ·simp only [Act.put, List.setIfInBounds_toArray, List.set_cons_zero, List.set_cons_succ, i64_w, i32_w]
             rfl
            refine pure_ (i := 3) (N := some 51) (v := undef) (a' := ?_) #[true, true, true, true, false, false, false, false, false, false, false, false, false, false, false] rfl rfl (any_of HT_.out (by kernel_rfl)) (fun _ _ _ h => h) (Or.inr ⟨by rfl, rfl⟩) ?_ ?_
            rotate_left
            ·simp only [Act.put, List.setIfInBounds_toArray, List.set_cons_zero, List.set_cons_succ, i64_w, i32_w]
             rfl
            refine pure_ (i := 4) (N := some 52) (v := undef) (a' := ?_) #[true, true, true, true, true, false, false, false, false, false, false, false, false, false, false] rfl rfl (any_of HT_.out (by kernel_rfl)) (fun _ _ _ h => h) (Or.inr ⟨by rfl, rfl⟩) ?_ ?_
            rotate_left
            ·simp only [Act.put, List.setIfInBounds_toArray, List.set_cons_zero, List.set_cons_succ, i64_w, i32_w]
             rfl
            refine pure_ (i := 5) (N := some 53) (v := undef) (a' := ?_) #[true, true, true, true, true, true, false, false, false, false, false, false, false, false, false] rfl rfl (any_of HT_.out (by kernel_rfl)) (fun _ _ _ h => h) (Or.inr ⟨by rfl, rfl⟩) ?_ ?_
            rotate_left
            ·simp only [Act.put, List.setIfInBounds_toArray, List.set_cons_zero, List.set_cons_succ, i64_w, i32_w]
             rfl
            refine pure_ (i := 6) (N := some 54) (v := undef) (a' := ?_) #[true, true, true, true, true, true, true, false, false, false, false, false, false, false, false] rfl rfl (any_of HT_.out (by kernel_rfl)) (fun _ _ _ h => h) (Or.inr ⟨by rfl, rfl⟩) ?_ ?_
            rotate_left
            ·simp only [Act.put, List.setIfInBounds_toArray, List.set_cons_zero, List.set_cons_succ, i64_w, i32_w]
             rfl
            refine pure_ (i := 7) (N := some 55) (v := undef) (a' := ?_) #[true, true, true, true, true, true, true, true, false, false, false, false, false, false, false] rfl rfl (any_of HT_.out (by kernel_rfl)) (fun _ _ _ h => h) (Or.inr ⟨by rfl, rfl⟩) ?_ ?_
            rotate_left
            ·simp only [Act.put, List.setIfInBounds_toArray, List.set_cons_zero, List.set_cons_succ, i64_w, i32_w]
             rfl
            refine pure_ (i := 8) (N := some 56) (v := undef) (a' := ?_) #[true, true, true, true, true, true, true, true, true, false, false, false, false, false, false] rfl rfl (any_of HT_.out (by kernel_rfl)) (fun _ _ _ h => h) (Or.inr ⟨by rfl, rfl⟩) ?_ ?_
            rotate_left
            ·simp only [Act.put, List.setIfInBounds_toArray, List.set_cons_zero, List.set_cons_succ, i64_w, i32_w]
             rfl
            refine pure_ (i := 9) (N := some 57) (v := undef) (a' := ?_) #[true, true, true, true, true, true, true, true, true, true, false, false, false, false, false] rfl rfl (any_of HT_.out (by kernel_rfl)) (fun _ _ _ h => h) (Or.inr ⟨by rfl, rfl⟩) ?_ ?_
            rotate_left
            ·simp only [Act.put, List.setIfInBounds_toArray, List.set_cons_zero, List.set_cons_succ, i64_w, i32_w]
             rfl
            refine pure_ (i := 10) (N := some 58) (v := undef) (a' := ?_) #[true, true, true, true, true, true, true, true, true, true, true, false, false, false, false] rfl rfl (any_of HT_.out (by kernel_rfl)) (fun _ _ _ h => h) (Or.inr ⟨by rfl, rfl⟩) ?_ ?_
            rotate_left
            ·simp only [Act.put, List.setIfInBounds_toArray, List.set_cons_zero, List.set_cons_succ, i64_w, i32_w]
             rfl
            refine pure_ (i := 11) (N := some 59) (v := undef) (a' := ?_) #[true, true, true, true, true, true, true, true, true, true, true, true, false, false, false] rfl rfl (any_of HT_.out (by kernel_rfl)) (fun _ _ _ h => h) (Or.inr ⟨by rfl, rfl⟩) ?_ ?_
            rotate_left
            ·simp only [Act.put, List.setIfInBounds_toArray, List.set_cons_zero, List.set_cons_succ, i64_w, i32_w]
             rfl
            refine pure_ (i := 12) (N := some 60) (v := undef) (a' := ?_) #[true, true, true, true, true, true, true, true, true, true, true, true, true, false, false] rfl rfl (any_of HT_.out (by kernel_rfl)) (fun _ _ _ h => h) (Or.inr ⟨by rfl, rfl⟩) ?_ ?_
            rotate_left
            ·simp only [Act.put, List.setIfInBounds_toArray, List.set_cons_zero, List.set_cons_succ, i64_w, i32_w]
             rfl
            refine pure_ (i := 13) (N := some 61) (v := ?_) (a' := ?_) #[true, true, true, true, true, true, true, true, true, true, true, true, true, true, false] rfl rfl (any_of HT_.out (by kernel_rfl)) (fun _ _ _ h => h) (Or.inl ⟨by rfl, ?_⟩) ?_ ?_
            rotate_left
            ·intro w'
             go_simp
             with_reducible rfl
            rotate_left
            ·simp only [Act.put, List.setIfInBounds_toArray, List.set_cons_zero, List.set_cons_succ, i64_w, i32_w]
             rfl
            refine pure_ (i := 14) (N := some 9) (v := ?_) (a' := ?_) #[true, true, true, true, true, true, true, true, true, true, true, true, true, true, true] rfl rfl (any_of HT_.out (by kernel_rfl)) (fun _ _ _ h => h) (Or.inl ⟨by rfl, ?_⟩) ?_ ?_
            rotate_left
            ·intro w'
             go_simp
             with_reducible rfl
            rotate_left
            ·simp only [Act.put, List.setIfInBounds_toArray, List.set_cons_zero, List.set_cons_succ, i64_w, i32_w]
             rfl
            refine done_ (done_of HT_.out (by kernel_rfl)) ?_
            try go_wp2
            go_roundg k3
            case measure => have := HJ5.out; have := HK2.out; have := HK3.out; omega
            case rel => exact ⟨(true), (wrap64 (x10_3 + 1)), (by first | rfl | (simp; done) | (simp [*]; done)), (by first | rfl | (simp; done) | (simp [*]; done)), H', ⟨by have := HJ5.out; have := HK2.out; have := HK3.out; omega⟩, ⟨by (with_reducible repeat (first | apply Kd.V_alloc | apply Kd.V_drewN | apply Kd.V_drew)); exact HO_0.out⟩, ⟨by (with_reducible repeat (first | apply Kd.R_alloc | apply Kd.R_drewN | apply Kd.R_drew)); exact HO_6.out⟩, ⟨by (with_reducible repeat (first | apply Kd.R_alloc | apply Kd.R_drewN | apply Kd.R_drew)); exact HO_401002.out⟩, ⟨by (with_reducible repeat (first | refine blk_drewN ?_ _ | refine blk_drew ?_ | refine blk_alloc ?_ _)); exact BK400.out⟩, ⟨by (with_reducible repeat (first | refine blk_drewN ?_ _ | refine blk_drew ?_ | refine blk_alloc ?_ _)); exact BK403.out⟩, ⟨by repeat (first | (with_reducible first | exact HB.out | apply below_alloc | apply pw_below_drewN | apply below_drew1 | refine below_set ?_ GE400.out | refine below_set ?_ GE403.out) | exact HB.out)⟩⟩
           ·replace c27 := Bool.eq_false_iff.mpr c27
            subst c27
            have H1 : (if 0 ≤ x10_3 then (if 0 ≤ x8_2 then (if x8_2 < (t390.length : Int) then (tithebarnlaw17_LevelsKeeps.l1 k3 t390 x6_2 x7_2 x8_2 ((rd t395 x10_3) == ((rd_T38 t390 x8_2).f0)) (wrap64 (x10_3 + 1)) t393 t394 t395 t398 x404000_2 x404001_2 x404002_2 x404003_2 x404004_2 x404005_2 x404006_2 x404007_2) else (none)) else (none)) else (none)) = some r := by rw [if_neg (show ¬ (false = true) by decide)] at H; exact H
            clear H
            have H := H1
            clear H1
            by_cases c31 : 0 ≤ x10_3
            ·rw [if_pos c31] at H
             have c31b0 : decide (0 ≤ x10_3) = true := decide_eq_true c31
             clear c31
             by_cases c32 : 0 ≤ x8_2
             ·rw [if_pos c32] at H
              have c32b0 : decide (0 ≤ x8_2) = true := decide_eq_true c32
              clear c32
              by_cases c33 : x8_2 < (t390.length : Int)
              ·rw [if_pos c33] at H
               have c33b0 : decide (x8_2 < (t390.length : Int)) = true := decide_eq_true c33
               clear c33
               have H' := Aside0.mk H
               clear H
               have hnb34 := NB400_403.out
               have hnc34 := NB403_400.out
               obtain ⟨hcz35_0, hcz35_1, hcz35_2, hcz35_3⟩ := bc4 BK400.out
               obtain ⟨hfz35_0, hfz35_1, hfz35_2, hfz35_3⟩ := bf4 BK400.out
               try go_wp2
               have n0_ := Aside0.mk (Kd.V_drew HO_0.out)
               have n1_ := Aside0.mk (Kd.R_drew HO_6.out)
               have n2_ := Aside0.mk (Kd.R_drew HO_401002.out)
               have n3_ := Aside0.mk (blk_drew BK400.out)
               have n4_ := Aside0.mk (blk_drew BK403.out)
               have n5_ := Aside0.mk (below_drew1 HB.out)
               clear HO_0
               clear HO_6
               clear HO_401002
               clear BK400
               clear BK403
               clear HB
               have HO_0 := n0_
               have HO_6 := n1_
               have HO_401002 := n2_
               have BK400 := n3_
               have BK403 := n4_
               have HB := n5_
               clear n0_ n1_ n2_ n3_ n4_ n5_
               have p404 : 0 ≤ (x10_3 : Int) := of_decide_eq_true (by with_reducible assumption)
               have q404 : x10_3 < (t395.length : Int) := of_decide_eq_true (by with_reducible assumption)
               obtain ⟨ad404, e404, hx404_0⟩ := Kd.at_int (Kd.R_reads' HO_401002.out).2.2 x10_3 p404 q404
               cases e404
               replace p404 := eq_true p404
               replace q404 := eq_true q404
               have p405 : 0 ≤ (x8_2 : Int) := of_decide_eq_true (by with_reducible assumption)
               have q405 : x8_2 < (t390.length : Int) := of_decide_eq_true (by with_reducible assumption)
               obtain ⟨ad405, e405, hx405_0, hx405_1, hx405_2, hx405_3, hx405_4, hx405_5, hx405_6, hx405_7⟩ := at_T38 (Kd.V_reads' HO_0.out).2.2 x8_2 p405 q405
               cases e405
               replace p405 := eq_true p405
               replace q405 := eq_true q405
               refine start_ (n := 15) (S := fun w' => w'.cell? ⟨gb400, 0, none⟩ = some (.int .i64 t393) ∧ w'.cell? ⟨gb400, 1, none⟩ = some (.int .i64 t394) ∧ w'.cell? ⟨gb400, 2, none⟩ = some (.slice (some ad404) t395.length co13) ∧ w'.cell? ⟨gb400, 3, none⟩ = some (.bool t398) ∧ w'.cell? (ad404.add (x10_3).toNat) = some (.int .i64 (rd t395 x10_3)) ∧ w'.cell? (ad405.add ((x8_2).toNat * 8)) = some (.int .i64 ((rd_T38 t390 x8_2).f0)) ∧ w'.cell? ⟨(ad405.add ((x8_2).toNat * 8)).block, (ad405.add ((x8_2).toNat * 8)).off + 1, none⟩ = some (.int .i64 ((rd_T38 t390 x8_2).f1)) ∧ w'.cell? ⟨(ad405.add ((x8_2).toNat * 8)).block, (ad405.add ((x8_2).toNat * 8)).off + 2, none⟩ = some (.bool ((rd_T38 t390 x8_2).f2.f0)) ∧ w'.cell? ⟨(ad405.add ((x8_2).toNat * 8)).block, (ad405.add ((x8_2).toNat * 8)).off + 3, none⟩ = some (.int .i64 ((rd_T38 t390 x8_2).f2.f1)) ∧ w'.cell? ⟨(ad405.add ((x8_2).toNat * 8)).block, (ad405.add ((x8_2).toNat * 8)).off + 4, none⟩ = some (.string ((rd_T38 t390 x8_2).f2.f2)) ∧ w'.cell? ⟨(ad405.add ((x8_2).toNat * 8)).block, (ad405.add ((x8_2).toNat * 8)).off + 5, none⟩ = some (.bool ((rd_T38 t390 x8_2).f3.f0)) ∧ w'.cell? ⟨(ad405.add ((x8_2).toNat * 8)).block, (ad405.add ((x8_2).toNat * 8)).off + 6, none⟩ = some (.int .i64 ((rd_T38 t390 x8_2).f3.f1)) ∧ w'.cell? ⟨(ad405.add ((x8_2).toNat * 8)).block, (ad405.add ((x8_2).toNat * 8)).off + 7, none⟩ = some (.string ((rd_T38 t390 x8_2).f3.f2))) (ds := []) #[false, false, false, false, false, false, false, false, false, false, false, false, false, false, false] (by kernel_rfl) rfl rfl ⟨(blk_cell BK400.out 0).trans rfl, (blk_cell BK400.out 1).trans rfl, (blk_cell BK400.out 2).trans rfl, (blk_cell BK400.out 3).trans rfl, hx404_0, hx405_0, hx405_1, hx405_2, hx405_3, hx405_4, hx405_5, hx405_6, hx405_7⟩ (fun hHeld => ?_); refine with_tabW tithebarnlaw17_LevelsKeeps.tab17 tithebarnlaw17_LevelsKeeps.bits17 (fun HT_ HW_ => ?_)
               generalize wr.drew = w36 at HO_0 HO_6 HO_401002 BK400 BK403 HB hx404_0 hx405_0 hx405_1 hx405_2 hx405_3 hx405_4 hx405_5 hx405_6 hx405_7 hHeld ⊢
               refine pure_ (i := 0) (N := some 48) (v := ?_) (a' := ?_) #[true, false, false, false, false, false, false, false, false, false, false, false, false, false, false] rfl rfl (any_of HT_.out (by kernel_rfl)) (fun _ _ _ h => h) (Or.inl ⟨by rfl, ?_⟩) ?_ ?_
               rotate_left
               ·intro w'
                go_simp
                with_reducible rfl
               rotate_left
               ·simp only [Act.put, List.setIfInBounds_toArray, List.set_cons_zero, List.set_cons_succ, i64_w, i32_w]
                rfl
               refine pure_ (i := 1) (N := some 49) (v := ?_) (a' := ?_) #[true, true, false, false, false, false, false, false, false, false, false, false, false, false, false] rfl rfl (any_of HT_.out (by kernel_rfl)) (fun _ _ _ h => h) (Or.inl ⟨by rfl, ?_⟩) ?_ ?_
               rotate_left
               ·intro w'
                go_simp
                with_reducible rfl
               rotate_left
               ·simp only [Act.put, List.setIfInBounds_toArray, List.set_cons_zero, List.set_cons_succ, i64_w, i32_w]
                rfl
               refine pure_ (i := 2) (N := some 50) (v := ?_) (a' := ?_) #[true, true, true, false, false, false, false, false, false, false, false, false, false, false, false] rfl rfl (any_of HT_.out (by kernel_rfl)) (fun _ _ _ h => h) (Or.inl ⟨by rfl, ?_⟩) ?_ ?_
               rotate_left
               ·intro w'
                go_simp
                with_reducible rfl
               rotate_left
               ·simp only [Act.put, List.setIfInBounds_toArray, List.set_cons_zero, List.set_cons_succ, i64_w, i32_w]
                rfl
               refine pure_ (i := 4) (N := some 52) (v := ?_) (a' := ?_) #[true, true, true, false, true, false, false, false, false, false, false, false, false, false, false] rfl rfl (any_of HT_.out (by kernel_rfl)) (fun _ _ _ h => h) (Or.inl ⟨by rfl, ?_⟩) ?_ ?_
               rotate_left
               ·intro w'
                go_simp
                with_reducible rfl
               rotate_left
               ·simp only [Act.put, List.setIfInBounds_toArray, List.set_cons_zero, List.set_cons_succ, i64_w, i32_w]
                rfl
               refine pure_ (i := 7) (N := some 55) (v := ?_) (a' := ?_) #[true, true, true, false, true, false, false, true, false, false, false, false, false, false, false] rfl rfl (any_of HT_.out (by kernel_rfl)) (fun _ _ _ h => h) (Or.inl ⟨by rfl, ?_⟩) ?_ ?_
               rotate_left
               ·intro w'
                go_simp
                with_reducible rfl
               rotate_left
               ·simp only [Act.put, List.setIfInBounds_toArray, List.set_cons_zero, List.set_cons_succ, i64_w, i32_w]
                rfl
               refine pure_ (i := 8) (N := some 56) (v := ?_) (a' := ?_) #[true, true, true, false, true, false, false, true, true, false, false, false, false, false, false] rfl rfl (any_of HT_.out (by kernel_rfl)) (fun _ _ _ h => h) (Or.inl ⟨by rfl, ?_⟩) ?_ ?_
               rotate_left
               ·intro w'
                go_simp
                with_reducible rfl
               rotate_left
               ·simp only [Act.put, List.setIfInBounds_toArray, List.set_cons_zero, List.set_cons_succ, i64_w, i32_w]
                rfl
               refine pure_ (i := 9) (N := some 57) (v := ?_) (a' := ?_) #[true, true, true, false, true, false, false, true, true, true, false, false, false, false, false] rfl rfl (any_of HT_.out (by kernel_rfl)) (fun _ _ _ h => h) (Or.inl ⟨by rfl, ?_⟩) ?_ ?_
               rotate_left
               ·intro w'
                go_simp
                with_reducible rfl
               rotate_left
               ·simp only [Act.put, List.setIfInBounds_toArray, List.set_cons_zero, List.set_cons_succ, i64_w, i32_w]
                rfl
               refine pure_ (i := 10) (N := some 58) (v := ?_) (a' := ?_) #[true, true, true, false, true, false, false, true, true, true, true, false, false, false, false] rfl rfl (any_of HT_.out (by kernel_rfl)) (fun _ _ _ h => h) (Or.inl ⟨by rfl, ?_⟩) ?_ ?_
               rotate_left
               ·intro w'
                go_simp
                with_reducible rfl
               rotate_left
               ·simp only [Act.put, List.setIfInBounds_toArray, List.set_cons_zero, List.set_cons_succ, i64_w, i32_w]
                rfl
               refine take_ (i := 3) (N := some 51) (v := ?_) (a' := ?_) #[true, true, true, true, true, false, false, true, true, true, true, false, false, false, false] rfl rfl (take_ofW HT_.out HW_.out (by kernel_rfl)) (fun _ _ _ h => h) (Or.inl ⟨by rfl, ?_⟩) hHeld ?_ ?_
               rotate_left
               ·rintro w' ⟨s0, s1, s2, s3, s4, s5, s6, s7, s8, s9, s10, s11, s12⟩
                go_simp
                with_reducible rfl
               rotate_left
               ·simp only [Act.put, List.setIfInBounds_toArray, List.set_cons_zero, List.set_cons_succ, i64_w, i32_w]
                rfl
               refine pure_ (i := 5) (N := some 53) (v := ?_) (a' := ?_) #[true, true, true, true, true, true, false, true, true, true, true, false, false, false, false] rfl rfl (any_of HT_.out (by kernel_rfl)) (fun _ _ _ h => h) (Or.inl ⟨by rfl, ?_⟩) ?_ ?_
               rotate_left
               ·intro w'
                go_simp
                with_reducible rfl
               rotate_left
               ·simp only [Act.put, List.setIfInBounds_toArray, List.set_cons_zero, List.set_cons_succ, i64_w, i32_w]
                rfl
               refine take_ (i := 6) (N := some 54) (v := ?_) (a' := ?_) #[true, true, true, true, true, true, true, true, true, true, true, false, false, false, false] rfl rfl (take_ofW HT_.out HW_.out (by kernel_rfl)) (fun _ _ _ h => h) (Or.inl ⟨by rfl, ?_⟩) hHeld ?_ ?_
               rotate_left
               ·rintro w' ⟨s0, s1, s2, s3, s4, s5, s6, s7, s8, s9, s10, s11, s12⟩
                go_simp
                with_reducible rfl
               rotate_left
               ·simp only [Act.put, List.setIfInBounds_toArray, List.set_cons_zero, List.set_cons_succ, i64_w, i32_w]
                rfl
               refine take_ (i := 11) (N := some 59) (v := ?_) (a' := ?_) #[true, true, true, true, true, true, true, true, true, true, true, true, false, false, false] rfl rfl (take_ofW HT_.out HW_.out (by kernel_rfl)) (fun _ _ _ h => h) (Or.inl ⟨by rfl, ?_⟩) hHeld ?_ ?_
               rotate_left
               ·rintro w' ⟨s0, s1, s2, s3, s4, s5, s6, s7, s8, s9, s10, s11, s12⟩
                go_simp
                with_reducible rfl
               rotate_left
               ·simp only [Act.put, List.setIfInBounds_toArray, List.set_cons_zero, List.set_cons_succ, i64_w, i32_w]
                rfl
               refine pure_ (i := 12) (N := some 60) (v := ?_) (a' := ?_) #[true, true, true, true, true, true, true, true, true, true, true, true, true, false, false] rfl rfl (any_of HT_.out (by kernel_rfl)) (fun _ _ _ h => h) (Or.inl ⟨by rfl, ?_⟩) ?_ ?_
               rotate_left
               ·intro w'
                go_simp
                with_reducible rfl
               rotate_left
               ·simp only [Act.put, List.setIfInBounds_toArray, List.set_cons_zero, List.set_cons_succ, i64_w, i32_w]
                rfl
               refine pure_ (i := 13) (N := some 61) (v := ?_) (a' := ?_) #[true, true, true, true, true, true, true, true, true, true, true, true, true, true, false] rfl rfl (any_of HT_.out (by kernel_rfl)) (fun _ _ _ h => h) (Or.inl ⟨by rfl, ?_⟩) ?_ ?_
               rotate_left
               ·intro w'
                go_simp
                with_reducible rfl
               rotate_left
               ·simp only [Act.put, List.setIfInBounds_toArray, List.set_cons_zero, List.set_cons_succ, i64_w, i32_w]
                rfl
               refine pure_ (i := 14) (N := some 9) (v := ?_) (a' := ?_) #[true, true, true, true, true, true, true, true, true, true, true, true, true, true, true] rfl rfl (any_of HT_.out (by kernel_rfl)) (fun _ _ _ h => h) (Or.inl ⟨by rfl, ?_⟩) ?_ ?_
               rotate_left
               ·intro w'
                go_simp
                with_reducible rfl
               rotate_left
               ·simp only [Act.put, List.setIfInBounds_toArray, List.set_cons_zero, List.set_cons_succ, i64_w, i32_w]
                rfl
               refine done_ (done_of HT_.out (by kernel_rfl)) ?_
               try go_wp2
               go_roundg k3
               case measure => have := HJ5.out; have := HK2.out; have := HK3.out; omega
               case rel => exact ⟨(((rd t395 x10_3) == ((rd_T38 t390 x8_2).f0))), (wrap64 (x10_3 + 1)), (by first | rfl | (simp; done) | (simp [*]; done)), (by first | rfl | (simp; done) | (simp [*]; done)), H', ⟨by have := HJ5.out; have := HK2.out; have := HK3.out; omega⟩, ⟨by (with_reducible repeat (first | apply Kd.V_alloc | apply Kd.V_drewN | apply Kd.V_drew)); exact HO_0.out⟩, ⟨by (with_reducible repeat (first | apply Kd.R_alloc | apply Kd.R_drewN | apply Kd.R_drew)); exact HO_6.out⟩, ⟨by (with_reducible repeat (first | apply Kd.R_alloc | apply Kd.R_drewN | apply Kd.R_drew)); exact HO_401002.out⟩, ⟨by (with_reducible repeat (first | refine blk_drewN ?_ _ | refine blk_drew ?_ | refine blk_alloc ?_ _)); exact BK400.out⟩, ⟨by (with_reducible repeat (first | refine blk_drewN ?_ _ | refine blk_drew ?_ | refine blk_alloc ?_ _)); exact BK403.out⟩, ⟨by repeat (first | (with_reducible first | exact HB.out | apply below_alloc | apply pw_below_drewN | apply below_drew1 | refine below_set ?_ GE400.out | refine below_set ?_ GE403.out) | exact HB.out)⟩⟩
              ·rw [if_neg c33] at H
               exact absurd H (by simp)
             ·rw [if_neg c32] at H
              exact absurd H (by simp)
            ·rw [if_neg c31] at H
             exact absurd H (by simp)
          ·rw [if_neg c26] at H
           have c26b0 : decide (x10_3 < (t395.length : Int)) = false := decide_eq_false c26
           clear c26
           by_cases c37 : x9_3 = true
           ·subst c37
            have H1 : (if 0 ≤ x8_2 then (if x8_2 < (t390.length : Int) then (if (rd_T38 t390 x8_2).f2.f0 = true then (tithebarnlaw17_LevelsKeeps.j3 k3 t390 x6_2 x7_2 x8_2 true t393 t394 t395 t398 x404000_2 x404001_2 x404002_2 x404003_2 x404004_2 x404005_2 x404006_2 x404007_2) else (if (rd_T38 t390 x8_2).f3.f0 = true then (tithebarnlaw17_LevelsKeeps.j3 k3 t390 x6_2 x7_2 x8_2 true t393 t394 t395 t398 x404000_2 x404001_2 x404002_2 x404003_2 x404004_2 x404005_2 x404006_2 x404007_2) else ((tithebarnref17_Overlap.f ((rd_T38 t390 x8_2).f0) ((rd_T38 t390 x8_2).f1) ((rd_T38 t390 x8_2).f2.f0) ((rd_T38 t390 x8_2).f2.f1) ((rd_T38 t390 x8_2).f2.f2) ((rd_T38 t390 x8_2).f3.f0) ((rd_T38 t390 x8_2).f3.f1) ((rd_T38 t390 x8_2).f3.f2) ((rd_T38 t390 x8_2).f0) ((rd_T38 t390 x8_2).f1) ((rd_T38 t390 x8_2).f2.f0) ((rd_T38 t390 x8_2).f2.f1) ((rd_T38 t390 x8_2).f2.f2) ((rd_T38 t390 x8_2).f3.f0) ((rd_T38 t390 x8_2).f3.f1) ((rd_T38 t390 x8_2).f3.f2)).bind fun t414 => (tithebarnlaw17_LevelsKeeps.j3 k3 t390 x6_2 x7_2 x8_2 (!t414) t393 t394 t395 t398 x404000_2 x404001_2 x404002_2 x404003_2 x404004_2 x404005_2 x404006_2 x404007_2)))) else (none)) else (none)) = some r := by rw [if_pos rfl] at H; exact H
            clear H
            have H := H1
            clear H1
            have HC38 := Aside0.mk H
            clear H
            have hnb39 := NB400_403.out
            have hnc39 := NB403_400.out
            obtain ⟨hcz40_0, hcz40_1, hcz40_2, hcz40_3⟩ := bc4 BK400.out
            obtain ⟨hfz40_0, hfz40_1, hfz40_2, hfz40_3⟩ := bf4 BK400.out
            go_upto_region 20 with (fail)
            go_cut [96] (fun v96 wc => ∃ (kq : Nat) (x96_37 : Bool), v96 = .bool x96_37 ∧ Aside0 (tithebarnlaw17_LevelsKeeps.j3 kq t390 x6_2 x7_2 x8_2 x96_37 t393 t394 t395 t398 x404000_2 x404001_2 x404002_2 x404003_2 x404004_2 x404005_2 x404006_2 x404007_2 = some r) ∧ Aside0 (kq ≤ k3) ∧ Aside0 (Kd.V k38 38 wc w.heap.size (fun k_ => some k_ ≠ (u6 : Value).ownBlock ∧ some k_ ≠ ((.slice Ao13 t395.length co13) : Value).ownBlock ∧ k_ ≠ gb400 ∧ k_ ≠ gb403) (.slice Ao9 t390.length co9) t390) ∧ Aside0 (Kd.R k38 38 wc w.heap.size (fun k_ => k_ ≠ gb403) u6 x6_2) ∧ Aside0 (Kd.R (Kd.int .i64) 3 wc w.heap.size (fun _ => True) (.slice Ao13 t395.length co13) t395) ∧ Aside0 (wc.heap[gb400]? = some (.cells #[.int .i64 t393, .int .i64 t394, (.slice Ao13 t395.length co13), .bool t398] 27 (0, 0))) ∧ Aside0 (wc.heap[gb403]? = some (.cells #[.int .i64 x404000_2, .int .i64 x404001_2, .bool x404002_2, .int .i64 x404003_2, .string x404004_2, .bool x404005_2, .int .i64 x404006_2, .string x404007_2] 38 (0, 0))) ∧ Aside0 (Below w.heap.size w wc))
            case first =>
             have H := HC38.out
             clear HC38
             by_cases c41 : 0 ≤ x8_2
             ·rw [if_pos c41] at H
              have c41b0 : decide (0 ≤ x8_2) = true := decide_eq_true c41
              clear c41
              (first | rw [c41b0] | (simp only [i64_w, i32_w]; rw [c41b0]) | skip)
              by_cases c42 : x8_2 < (t390.length : Int)
              ·rw [if_pos c42] at H
               have c42b0 : decide (x8_2 < (t390.length : Int)) = true := decide_eq_true c42
               clear c42
               obtain ⟨bq43, hbq43⟩ : ∃ b_ : Bool, b_ = ((rd_T38 t390 x8_2).f2.f0) := ⟨_, rfl⟩
               replace H : (if bq43 = true then (tithebarnlaw17_LevelsKeeps.j3 k3 t390 x6_2 x7_2 x8_2 true t393 t394 t395 t398 x404000_2 x404001_2 x404002_2 x404003_2 x404004_2 x404005_2 x404006_2 x404007_2) else (if (rd_T38 t390 x8_2).f3.f0 = true then (tithebarnlaw17_LevelsKeeps.j3 k3 t390 x6_2 x7_2 x8_2 true t393 t394 t395 t398 x404000_2 x404001_2 x404002_2 x404003_2 x404004_2 x404005_2 x404006_2 x404007_2) else ((tithebarnref17_Overlap.f ((rd_T38 t390 x8_2).f0) ((rd_T38 t390 x8_2).f1) (bq43) ((rd_T38 t390 x8_2).f2.f1) ((rd_T38 t390 x8_2).f2.f2) ((rd_T38 t390 x8_2).f3.f0) ((rd_T38 t390 x8_2).f3.f1) ((rd_T38 t390 x8_2).f3.f2) ((rd_T38 t390 x8_2).f0) ((rd_T38 t390 x8_2).f1) (bq43) ((rd_T38 t390 x8_2).f2.f1) ((rd_T38 t390 x8_2).f2.f2) ((rd_T38 t390 x8_2).f3.f0) ((rd_T38 t390 x8_2).f3.f1) ((rd_T38 t390 x8_2).f3.f2)).bind fun t414 => (tithebarnlaw17_LevelsKeeps.j3 k3 t390 x6_2 x7_2 x8_2 (!t414) t393 t394 t395 t398 x404000_2 x404001_2 x404002_2 x404003_2 x404004_2 x404005_2 x404006_2 x404007_2)))) = some r := by rw [← hbq43] at H; exact H
               have Nbq43 := Aside0.mk hbq43
               clear hbq43
               by_cases c44 : bq43 = true
               ·subst c44
                have H1 : (tithebarnlaw17_LevelsKeeps.j3 k3 t390 x6_2 x7_2 x8_2 true t393 t394 t395 t398 x404000_2 x404001_2 x404002_2 x404003_2 x404004_2 x404005_2 x404006_2 x404007_2) = some r := by rw [if_pos rfl] at H; exact H
                clear H
                have H := H1
                clear H1
                have H' := Aside0.mk H
                clear H
                try go_wp2
                have n0_ := Aside0.mk (Kd.V_drew HO_0.out)
                have n1_ := Aside0.mk (Kd.R_drew HO_6.out)
                have n2_ := Aside0.mk (Kd.R_drew HO_401002.out)
                have n3_ := Aside0.mk (blk_drew BK400.out)
                have n4_ := Aside0.mk (blk_drew BK403.out)
                have n5_ := Aside0.mk (below_drew1 HB.out)
                clear HO_0
                clear HO_6
                clear HO_401002
                clear BK400
                clear BK403
                clear HB
                have HO_0 := n0_
                have HO_6 := n1_
                have HO_401002 := n2_
                have BK400 := n3_
                have BK403 := n4_
                have HB := n5_
                clear n0_ n1_ n2_ n3_ n4_ n5_
                have p410 : 0 ≤ (x8_2 : Int) := of_decide_eq_true (by with_reducible assumption)
                have q410 : x8_2 < (t390.length : Int) := of_decide_eq_true (by with_reducible assumption)
                obtain ⟨ad410, e410, hx410_0, hx410_1, hx410_2, hx410_3, hx410_4, hx410_5, hx410_6, hx410_7⟩ := at_T38 (Kd.V_reads' HO_0.out).2.2 x8_2 p410 q410
                (try rw [← Nbq43.out] at hx410_2)
                (try rw [← Nbq43.out] at hx410_5)
                cases e410
                replace p410 := eq_true p410
                replace q410 := eq_true q410
                refine start_ (n := 26) (S := fun w' => w'.cell? (ad410.add ((x8_2).toNat * 8)) = some (.int .i64 ((rd_T38 t390 x8_2).f0)) ∧ w'.cell? ⟨(ad410.add ((x8_2).toNat * 8)).block, (ad410.add ((x8_2).toNat * 8)).off + 1, none⟩ = some (.int .i64 ((rd_T38 t390 x8_2).f1)) ∧ w'.cell? ⟨(ad410.add ((x8_2).toNat * 8)).block, (ad410.add ((x8_2).toNat * 8)).off + 2, none⟩ = some (.bool true) ∧ w'.cell? ⟨(ad410.add ((x8_2).toNat * 8)).block, (ad410.add ((x8_2).toNat * 8)).off + 3, none⟩ = some (.int .i64 ((rd_T38 t390 x8_2).f2.f1)) ∧ w'.cell? ⟨(ad410.add ((x8_2).toNat * 8)).block, (ad410.add ((x8_2).toNat * 8)).off + 4, none⟩ = some (.string ((rd_T38 t390 x8_2).f2.f2)) ∧ w'.cell? ⟨(ad410.add ((x8_2).toNat * 8)).block, (ad410.add ((x8_2).toNat * 8)).off + 5, none⟩ = some (.bool ((rd_T38 t390 x8_2).f3.f0)) ∧ w'.cell? ⟨(ad410.add ((x8_2).toNat * 8)).block, (ad410.add ((x8_2).toNat * 8)).off + 6, none⟩ = some (.int .i64 ((rd_T38 t390 x8_2).f3.f1)) ∧ w'.cell? ⟨(ad410.add ((x8_2).toNat * 8)).block, (ad410.add ((x8_2).toNat * 8)).off + 7, none⟩ = some (.string ((rd_T38 t390 x8_2).f3.f2))) (ds := []) #[false, false, false, false, false, false, false, false, false, false, false, false, false, false, false, false, false, false, false, false, false, false, false, false, false, false] (by kernel_rfl) rfl rfl ⟨hx410_0, hx410_1, hx410_2, hx410_3, hx410_4, hx410_5, hx410_6, hx410_7⟩ (fun hHeld => ?_); refine with_tabW tithebarnlaw17_LevelsKeeps.tab20 tithebarnlaw17_LevelsKeeps.bits20 (fun HT_ HW_ => ?_)
                generalize wr.drew = w45 at HO_0 HO_6 HO_401002 BK400 BK403 HB hx410_0 hx410_1 hx410_2 hx410_3 hx410_4 hx410_5 hx410_6 hx410_7 hHeld ⊢
                refine pure_ (i := 0) (N := some 71) (v := ?_) (a' := ?_) #[true, false, false, false, false, false, false, false, false, false, false, false, false, false, false, false, false, false, false, false, false, false, false, false, false, false] rfl rfl (any_of HT_.out (by kernel_rfl)) (fun _ _ _ h => h) (Or.inl ⟨by rfl, ?_⟩) ?_ ?_
                rotate_left
                ·intro w'
                 go_simp
                 with_reducible rfl
                rotate_left
                ·simp only [Act.put, List.setIfInBounds_toArray, List.set_cons_zero, List.set_cons_succ, i64_w, i32_w]
                 rfl
                refine pure_ (i := 1) (N := some 72) (v := ?_) (a' := ?_) #[true, true, false, false, false, false, false, false, false, false, false, false, false, false, false, false, false, false, false, false, false, false, false, false, false, false] rfl rfl (any_of HT_.out (by kernel_rfl)) (fun _ _ _ h => h) (Or.inl ⟨by rfl, ?_⟩) ?_ ?_
                rotate_left
                ·intro w'
                 go_simp
                 with_reducible rfl
                rotate_left
                ·simp only [Act.put, List.setIfInBounds_toArray, List.set_cons_zero, List.set_cons_succ, i64_w, i32_w]
                 rfl
                refine pure_ (i := 2) (N := some 73) (v := ?_) (a' := ?_) #[true, true, true, false, false, false, false, false, false, false, false, false, false, false, false, false, false, false, false, false, false, false, false, false, false, false] rfl rfl (any_of HT_.out (by kernel_rfl)) (fun _ _ _ h => h) (Or.inl ⟨by rfl, ?_⟩) ?_ ?_
                rotate_left
                ·intro w'
                 go_simp
                 with_reducible rfl
                rotate_left
                ·simp only [Act.put, List.setIfInBounds_toArray, List.set_cons_zero, List.set_cons_succ, i64_w, i32_w]
                 rfl
                refine pure_ (i := 3) (N := some 74) (v := ?_) (a' := ?_) #[true, true, true, true, false, false, false, false, false, false, false, false, false, false, false, false, false, false, false, false, false, false, false, false, false, false] rfl rfl (any_of HT_.out (by kernel_rfl)) (fun _ _ _ h => h) (Or.inl ⟨by rfl, ?_⟩) ?_ ?_
                rotate_left
                ·intro w'
                 go_simp
                 with_reducible rfl
                rotate_left
                ·simp only [Act.put, List.setIfInBounds_toArray, List.set_cons_zero, List.set_cons_succ, i64_w, i32_w]
                 rfl
                refine pure_ (i := 4) (N := some 75) (v := ?_) (a' := ?_) #[true, true, true, true, true, false, false, false, false, false, false, false, false, false, false, false, false, false, false, false, false, false, false, false, false, false] rfl rfl (any_of HT_.out (by kernel_rfl)) (fun _ _ _ h => h) (Or.inl ⟨by rfl, ?_⟩) ?_ ?_
                rotate_left
                ·intro w'
                 go_simp
                 with_reducible rfl
                rotate_left
                ·simp only [Act.put, List.setIfInBounds_toArray, List.set_cons_zero, List.set_cons_succ, i64_w, i32_w]
                 rfl
                refine take_ (i := 5) (N := some 76) (v := ?_) (a' := ?_) #[true, true, true, true, true, true, false, false, false, false, false, false, false, false, false, false, false, false, false, false, false, false, false, false, false, false] rfl rfl (take_ofW HT_.out HW_.out (by kernel_rfl)) (fun _ _ _ h => h) (Or.inl ⟨by rfl, ?_⟩) hHeld ?_ ?_
                rotate_left
                ·rintro w' ⟨s0, s1, s2, s3, s4, s5, s6, s7⟩
                 go_simp
                 with_reducible rfl
                rotate_left
                ·simp only [Act.put, List.setIfInBounds_toArray, List.set_cons_zero, List.set_cons_succ, i64_w, i32_w]
                 rfl
                refine pure_ (i := 6) (N := some 77) (v := ?_) (a' := ?_) #[true, true, true, true, true, true, true, false, false, false, false, false, false, false, false, false, false, false, false, false, false, false, false, false, false, false] rfl rfl (any_of HT_.out (by kernel_rfl)) (fun _ _ _ h => h) (Or.inl ⟨by rfl, ?_⟩) ?_ ?_
                rotate_left
                ·intro w'
                 go_simp
                 with_reducible rfl
                rotate_left
                ·simp only [Act.put, List.setIfInBounds_toArray, List.set_cons_zero, List.set_cons_succ, i64_w, i32_w]
                 rfl
                refine pure_ (i := 7) (N := some 78) (v := undef) (a' := ?_) #[true, true, true, true, true, true, true, true, false, false, false, false, false, false, false, false, false, false, false, false, false, false, false, false, false, false] rfl rfl (any_of HT_.out (by kernel_rfl)) (fun _ _ _ h => h) (Or.inr ⟨by rfl, rfl⟩) ?_ ?_
                rotate_left
                ·simp only [Act.put, List.setIfInBounds_toArray, List.set_cons_zero, List.set_cons_succ, i64_w, i32_w]
                 rfl
                refine pure_ (i := 8) (N := some 79) (v := undef) (a' := ?_) #[true, true, true, true, true, true, true, true, true, false, false, false, false, false, false, false, false, false, false, false, false, false, false, false, false, false] rfl rfl (any_of HT_.out (by kernel_rfl)) (fun _ _ _ h => h) (Or.inr ⟨by rfl, rfl⟩) ?_ ?_
                rotate_left
                ·simp only [Act.put, List.setIfInBounds_toArray, List.set_cons_zero, List.set_cons_succ, i64_w, i32_w]
                 rfl
                refine pure_ (i := 9) (N := some 80) (v := undef) (a' := ?_) #[true, true, true, true, true, true, true, true, true, true, false, false, false, false, false, false, false, false, false, false, false, false, false, false, false, false] rfl rfl (any_of HT_.out (by kernel_rfl)) (fun _ _ _ h => h) (Or.inr ⟨by rfl, rfl⟩) ?_ ?_
                rotate_left
                ·simp only [Act.put, List.setIfInBounds_toArray, List.set_cons_zero, List.set_cons_succ, i64_w, i32_w]
                 rfl
                refine pure_ (i := 10) (N := some 81) (v := undef) (a' := ?_) #[true, true, true, true, true, true, true, true, true, true, true, false, false, false, false, false, false, false, false, false, false, false, false, false, false, false] rfl rfl (any_of HT_.out (by kernel_rfl)) (fun _ _ _ h => h) (Or.inr ⟨by rfl, rfl⟩) ?_ ?_
                rotate_left
                ·simp only [Act.put, List.setIfInBounds_toArray, List.set_cons_zero, List.set_cons_succ, i64_w, i32_w]
                 rfl
                refine pure_ (i := 11) (N := some 82) (v := undef) (a' := ?_) #[true, true, true, true, true, true, true, true, true, true, true, true, false, false, false, false, false, false, false, false, false, false, false, false, false, false] rfl rfl (any_of HT_.out (by kernel_rfl)) (fun _ _ _ h => h) (Or.inr ⟨by rfl, rfl⟩) ?_ ?_
                rotate_left
                ·simp only [Act.put, List.setIfInBounds_toArray, List.set_cons_zero, List.set_cons_succ, i64_w, i32_w]
                 rfl
                refine pure_ (i := 12) (N := some 83) (v := undef) (a' := ?_) #[true, true, true, true, true, true, true, true, true, true, true, true, true, false, false, false, false, false, false, false, false, false, false, false, false, false] rfl rfl (any_of HT_.out (by kernel_rfl)) (fun _ _ _ h => h) (Or.inr ⟨by rfl, rfl⟩) ?_ ?_
                rotate_left
                ·simp only [Act.put, List.setIfInBounds_toArray, List.set_cons_zero, List.set_cons_succ, i64_w, i32_w]
                 rfl
                refine pure_ (i := 13) (N := some 84) (v := ?_) (a' := ?_) #[true, true, true, true, true, true, true, true, true, true, true, true, true, true, false, false, false, false, false, false, false, false, false, false, false, false] rfl rfl (any_of HT_.out (by kernel_rfl)) (fun _ _ _ h => h) (Or.inl ⟨by rfl, ?_⟩) ?_ ?_
                rotate_left
                ·intro w'
                 go_simp
                 with_reducible rfl
                rotate_left
                ·simp only [Act.put, List.setIfInBounds_toArray, List.set_cons_zero, List.set_cons_succ, i64_w, i32_w]
                 rfl
                refine pure_ (i := 14) (N := some 85) (v := ?_) (a' := ?_) #[true, true, true, true, true, true, true, true, true, true, true, true, true, true, true, false, false, false, false, false, false, false, false, false, false, false] rfl rfl (any_of HT_.out (by kernel_rfl)) (fun _ _ _ h => h) (Or.inl ⟨by rfl, ?_⟩) ?_ ?_
                rotate_left
                ·intro w'
                 go_simp
                 with_reducible rfl
                rotate_left
                ·simp only [Act.put, List.setIfInBounds_toArray, List.set_cons_zero, List.set_cons_succ, i64_w, i32_w]
                 rfl
                refine pure_ (i := 15) (N := some 86) (v := undef) (a' := ?_) #[true, true, true, true, true, true, true, true, true, true, true, true, true, true, true, true, false, false, false, false, false, false, false, false, false, false] rfl rfl (any_of HT_.out (by kernel_rfl)) (fun _ _ _ h => h) (Or.inr ⟨by rfl, rfl⟩) ?_ ?_
                rotate_left
                ·simp only [Act.put, List.setIfInBounds_toArray, List.set_cons_zero, List.set_cons_succ, i64_w, i32_w]
                 rfl
                refine pure_ (i := 16) (N := some 87) (v := undef) (a' := ?_) #[true, true, true, true, true, true, true, true, true, true, true, true, true, true, true, true, true, false, false, false, false, false, false, false, false, false] rfl rfl (any_of HT_.out (by kernel_rfl)) (fun _ _ _ h => h) (Or.inr ⟨by rfl, rfl⟩) ?_ ?_
                rotate_left
                ·simp only [Act.put, List.setIfInBounds_toArray, List.set_cons_zero, List.set_cons_succ, i64_w, i32_w]
                 rfl
                refine pure_ (i := 17) (N := some 88) (v := undef) (a' := ?_) #[true, true, true, true, true, true, true, true, true, true, true, true, true, true, true, true, true, true, false, false, false, false, false, false, false, false] rfl rfl (any_of HT_.out (by kernel_rfl)) (fun _ _ _ h => h) (Or.inr ⟨by rfl, rfl⟩) ?_ ?_
                rotate_left
                ·simp only [Act.put, List.setIfInBounds_toArray, List.set_cons_zero, List.set_cons_succ, i64_w, i32_w]
                 rfl
                refine pure_ (i := 18) (N := some 89) (v := undef) (a' := ?_) #[true, true, true, true, true, true, true, true, true, true, true, true, true, true, true, true, true, true, true, false, false, false, false, false, false, false] rfl rfl (any_of HT_.out (by kernel_rfl)) (fun _ _ _ h => h) (Or.inr ⟨by rfl, rfl⟩) ?_ ?_
                rotate_left
                ·simp only [Act.put, List.setIfInBounds_toArray, List.set_cons_zero, List.set_cons_succ, i64_w, i32_w]
                 rfl
                refine pure_ (i := 19) (N := some 90) (v := undef) (a' := ?_) #[true, true, true, true, true, true, true, true, true, true, true, true, true, true, true, true, true, true, true, true, false, false, false, false, false, false] rfl rfl (any_of HT_.out (by kernel_rfl)) (fun _ _ _ h => h) (Or.inr ⟨by rfl, rfl⟩) ?_ ?_
                rotate_left
                ·simp only [Act.put, List.setIfInBounds_toArray, List.set_cons_zero, List.set_cons_succ, i64_w, i32_w]
                 rfl
                refine pure_ (i := 20) (N := some 91) (v := undef) (a' := ?_) #[true, true, true, true, true, true, true, true, true, true, true, true, true, true, true, true, true, true, true, true, true, false, false, false, false, false] rfl rfl (any_of HT_.out (by kernel_rfl)) (fun _ _ _ h => h) (Or.inr ⟨by rfl, rfl⟩) ?_ ?_
                rotate_left
                ·simp only [Act.put, List.setIfInBounds_toArray, List.set_cons_zero, List.set_cons_succ, i64_w, i32_w]
                 rfl
                refine pure_ (i := 21) (N := some 92) (v := undef) (a' := ?_) #[true, true, true, true, true, true, true, true, true, true, true, true, true, true, true, true, true, true, true, true, true, true, false, false, false, false] rfl rfl (any_of HT_.out (by kernel_rfl)) (fun _ _ _ h => h) (Or.inr ⟨by rfl, rfl⟩) ?_ ?_
                rotate_left
                ·simp only [Act.put, List.setIfInBounds_toArray, List.set_cons_zero, List.set_cons_succ, i64_w, i32_w]
                 rfl
                refine pure_ (i := 22) (N := some 93) (v := undef) (a' := ?_) #[true, true, true, true, true, true, true, true, true, true, true, true, true, true, true, true, true, true, true, true, true, true, true, false, false, false] rfl rfl (any_of HT_.out (by kernel_rfl)) (fun _ _ _ h => h) (Or.inr ⟨by rfl, rfl⟩) ?_ ?_
                rotate_left
                ·simp only [Act.put, List.setIfInBounds_toArray, List.set_cons_zero, List.set_cons_succ, i64_w, i32_w]
                 rfl
                refine pure_ (i := 23) (N := some 94) (v := undef) (a' := ?_) #[true, true, true, true, true, true, true, true, true, true, true, true, true, true, true, true, true, true, true, true, true, true, true, true, false, false] rfl rfl (any_of HT_.out (by kernel_rfl)) (fun _ _ _ h => h) (Or.inr ⟨by rfl, rfl⟩) ?_ ?_
                rotate_left
                ·simp only [Act.put, List.setIfInBounds_toArray, List.set_cons_zero, List.set_cons_succ, i64_w, i32_w]
                 rfl
                refine pure_ (i := 24) (N := some 95) (v := undef) (a' := ?_) #[true, true, true, true, true, true, true, true, true, true, true, true, true, true, true, true, true, true, true, true, true, true, true, true, true, false] rfl rfl (any_of HT_.out (by kernel_rfl)) (fun _ _ _ h => h) (Or.inr ⟨by rfl, rfl⟩) ?_ ?_
                rotate_left
                ·simp only [Act.put, List.setIfInBounds_toArray, List.set_cons_zero, List.set_cons_succ, i64_w, i32_w]
                 rfl
                refine pure_ (i := 25) (N := some 96) (v := ?_) (a' := ?_) #[true, true, true, true, true, true, true, true, true, true, true, true, true, true, true, true, true, true, true, true, true, true, true, true, true, true] rfl rfl (any_of HT_.out (by kernel_rfl)) (fun _ _ _ h => h) (Or.inl ⟨by rfl, ?_⟩) ?_ ?_
                rotate_left
                ·intro w'
                 go_simp
                 with_reducible rfl
                rotate_left
                ·simp only [Act.put, List.setIfInBounds_toArray, List.set_cons_zero, List.set_cons_succ, i64_w, i32_w]
                 rfl
                refine done_ (done_of HT_.out (by kernel_rfl)) ?_
                try go_wp2
                go_meet
                case rel => exact ⟨_, (true), (by first | rfl | (simp; done) | (simp [*]; done)), H', ⟨by have := HJ5.out; have := HK2.out; have := HK3.out; first | omega | exact Nat.le_refl _⟩, ⟨by (with_reducible repeat (first | apply Kd.V_alloc | apply Kd.V_drewN | apply Kd.V_drew)); exact HO_0.out⟩, ⟨by (with_reducible repeat (first | apply Kd.R_alloc | apply Kd.R_drewN | apply Kd.R_drew)); exact HO_6.out⟩, ⟨by (with_reducible repeat (first | apply Kd.R_alloc | apply Kd.R_drewN | apply Kd.R_drew)); exact HO_401002.out⟩, ⟨by (with_reducible repeat (first | refine blk_drewN ?_ _ | refine blk_drew ?_ | refine blk_alloc ?_ _)); exact BK400.out⟩, ⟨by (with_reducible repeat (first | refine blk_drewN ?_ _ | refine blk_drew ?_ | refine blk_alloc ?_ _)); exact BK403.out⟩, ⟨by repeat (first | (with_reducible first | exact HB.out | apply below_alloc | apply pw_below_drewN | apply below_drew1 | refine below_set ?_ GE400.out | refine below_set ?_ GE403.out) | exact HB.out)⟩⟩
               ·replace c44 := Bool.eq_false_iff.mpr c44
                subst c44
                have H1 : (if (rd_T38 t390 x8_2).f3.f0 = true then (tithebarnlaw17_LevelsKeeps.j3 k3 t390 x6_2 x7_2 x8_2 true t393 t394 t395 t398 x404000_2 x404001_2 x404002_2 x404003_2 x404004_2 x404005_2 x404006_2 x404007_2) else ((tithebarnref17_Overlap.f ((rd_T38 t390 x8_2).f0) ((rd_T38 t390 x8_2).f1) (false) ((rd_T38 t390 x8_2).f2.f1) ((rd_T38 t390 x8_2).f2.f2) ((rd_T38 t390 x8_2).f3.f0) ((rd_T38 t390 x8_2).f3.f1) ((rd_T38 t390 x8_2).f3.f2) ((rd_T38 t390 x8_2).f0) ((rd_T38 t390 x8_2).f1) (false) ((rd_T38 t390 x8_2).f2.f1) ((rd_T38 t390 x8_2).f2.f2) ((rd_T38 t390 x8_2).f3.f0) ((rd_T38 t390 x8_2).f3.f1) ((rd_T38 t390 x8_2).f3.f2)).bind fun t414 => (tithebarnlaw17_LevelsKeeps.j3 k3 t390 x6_2 x7_2 x8_2 (!t414) t393 t394 t395 t398 x404000_2 x404001_2 x404002_2 x404003_2 x404004_2 x404005_2 x404006_2 x404007_2))) = some r := by rw [if_neg (show ¬ (false = true) by decide)] at H; exact H
                clear H
                have H := H1
                clear H1
                obtain ⟨bq46, hbq46⟩ : ∃ b_ : Bool, b_ = ((rd_T38 t390 x8_2).f3.f0) := ⟨_, rfl⟩
                replace H : (if bq46 = true then (tithebarnlaw17_LevelsKeeps.j3 k3 t390 x6_2 x7_2 x8_2 true t393 t394 t395 t398 x404000_2 x404001_2 x404002_2 x404003_2 x404004_2 x404005_2 x404006_2 x404007_2) else ((tithebarnref17_Overlap.f ((rd_T38 t390 x8_2).f0) ((rd_T38 t390 x8_2).f1) (false) ((rd_T38 t390 x8_2).f2.f1) ((rd_T38 t390 x8_2).f2.f2) (bq46) ((rd_T38 t390 x8_2).f3.f1) ((rd_T38 t390 x8_2).f3.f2) ((rd_T38 t390 x8_2).f0) ((rd_T38 t390 x8_2).f1) (false) ((rd_T38 t390 x8_2).f2.f1) ((rd_T38 t390 x8_2).f2.f2) (bq46) ((rd_T38 t390 x8_2).f3.f1) ((rd_T38 t390 x8_2).f3.f2)).bind fun t414 => (tithebarnlaw17_LevelsKeeps.j3 k3 t390 x6_2 x7_2 x8_2 (!t414) t393 t394 t395 t398 x404000_2 x404001_2 x404002_2 x404003_2 x404004_2 x404005_2 x404006_2 x404007_2))) = some r := by rw [← hbq46] at H; exact H
                have Nbq46 := Aside0.mk hbq46
                clear hbq46
                by_cases c47 : bq46 = true
                ·subst c47
                 have H1 : (tithebarnlaw17_LevelsKeeps.j3 k3 t390 x6_2 x7_2 x8_2 true t393 t394 t395 t398 x404000_2 x404001_2 x404002_2 x404003_2 x404004_2 x404005_2 x404006_2 x404007_2) = some r := by rw [if_pos rfl] at H; exact H
                 clear H
                 have H := H1
                 clear H1
                 have H' := Aside0.mk H
                 clear H
                 try go_wp2
                 have n0_ := Aside0.mk (Kd.V_drew HO_0.out)
                 have n1_ := Aside0.mk (Kd.R_drew HO_6.out)
                 have n2_ := Aside0.mk (Kd.R_drew HO_401002.out)
                 have n3_ := Aside0.mk (blk_drew BK400.out)
                 have n4_ := Aside0.mk (blk_drew BK403.out)
                 have n5_ := Aside0.mk (below_drew1 HB.out)
                 clear HO_0
                 clear HO_6
                 clear HO_401002
                 clear BK400
                 clear BK403
                 clear HB
                 have HO_0 := n0_
                 have HO_6 := n1_
                 have HO_401002 := n2_
                 have BK400 := n3_
                 have BK403 := n4_
                 have HB := n5_
                 clear n0_ n1_ n2_ n3_ n4_ n5_
                 have p410 : 0 ≤ (x8_2 : Int) := of_decide_eq_true (by with_reducible assumption)
                 have q410 : x8_2 < (t390.length : Int) := of_decide_eq_true (by with_reducible assumption)
                 obtain ⟨ad410, e410, hx410_0, hx410_1, hx410_2, hx410_3, hx410_4, hx410_5, hx410_6, hx410_7⟩ := at_T38 (Kd.V_reads' HO_0.out).2.2 x8_2 p410 q410
                 (try rw [← Nbq43.out] at hx410_2)
                 (try rw [← Nbq46.out] at hx410_2)
                 (try rw [← Nbq43.out] at hx410_5)
                 (try rw [← Nbq46.out] at hx410_5)
                 cases e410
                 replace p410 := eq_true p410
                 replace q410 := eq_true q410
                 have p411 : 0 ≤ (x8_2 : Int) := of_decide_eq_true (by with_reducible assumption)
                 have q411 : x8_2 < (t390.length : Int) := of_decide_eq_true (by with_reducible assumption)
                 obtain ⟨ad411, e411, hx411_0, hx411_1, hx411_2, hx411_3, hx411_4, hx411_5, hx411_6, hx411_7⟩ := at_T38 (Kd.V_reads' HO_0.out).2.2 x8_2 p411 q411
                 (try rw [← Nbq43.out] at hx411_2)
                 (try rw [← Nbq46.out] at hx411_2)
                 (try rw [← Nbq43.out] at hx411_5)
                 (try rw [← Nbq46.out] at hx411_5)
                 obtain rfl : ad410 = ad411 := (by injection e411)
                 replace p411 := eq_true p411
                 replace q411 := eq_true q411
                 refine start_ (n := 26) (S := fun w' => w'.cell? (ad410.add ((x8_2).toNat * 8)) = some (.int .i64 ((rd_T38 t390 x8_2).f0)) ∧ w'.cell? ⟨(ad410.add ((x8_2).toNat * 8)).block, (ad410.add ((x8_2).toNat * 8)).off + 1, none⟩ = some (.int .i64 ((rd_T38 t390 x8_2).f1)) ∧ w'.cell? ⟨(ad410.add ((x8_2).toNat * 8)).block, (ad410.add ((x8_2).toNat * 8)).off + 2, none⟩ = some (.bool false) ∧ w'.cell? ⟨(ad410.add ((x8_2).toNat * 8)).block, (ad410.add ((x8_2).toNat * 8)).off + 3, none⟩ = some (.int .i64 ((rd_T38 t390 x8_2).f2.f1)) ∧ w'.cell? ⟨(ad410.add ((x8_2).toNat * 8)).block, (ad410.add ((x8_2).toNat * 8)).off + 4, none⟩ = some (.string ((rd_T38 t390 x8_2).f2.f2)) ∧ w'.cell? ⟨(ad410.add ((x8_2).toNat * 8)).block, (ad410.add ((x8_2).toNat * 8)).off + 5, none⟩ = some (.bool true) ∧ w'.cell? ⟨(ad410.add ((x8_2).toNat * 8)).block, (ad410.add ((x8_2).toNat * 8)).off + 6, none⟩ = some (.int .i64 ((rd_T38 t390 x8_2).f3.f1)) ∧ w'.cell? ⟨(ad410.add ((x8_2).toNat * 8)).block, (ad410.add ((x8_2).toNat * 8)).off + 7, none⟩ = some (.string ((rd_T38 t390 x8_2).f3.f2)) ∧ w'.cell? (ad410.add ((x8_2).toNat * 8)) = some (.int .i64 ((rd_T38 t390 x8_2).f0)) ∧ w'.cell? ⟨(ad410.add ((x8_2).toNat * 8)).block, (ad410.add ((x8_2).toNat * 8)).off + 1, none⟩ = some (.int .i64 ((rd_T38 t390 x8_2).f1)) ∧ w'.cell? ⟨(ad410.add ((x8_2).toNat * 8)).block, (ad410.add ((x8_2).toNat * 8)).off + 2, none⟩ = some (.bool (false)) ∧ w'.cell? ⟨(ad410.add ((x8_2).toNat * 8)).block, (ad410.add ((x8_2).toNat * 8)).off + 3, none⟩ = some (.int .i64 ((rd_T38 t390 x8_2).f2.f1)) ∧ w'.cell? ⟨(ad410.add ((x8_2).toNat * 8)).block, (ad410.add ((x8_2).toNat * 8)).off + 4, none⟩ = some (.string ((rd_T38 t390 x8_2).f2.f2)) ∧ w'.cell? ⟨(ad410.add ((x8_2).toNat * 8)).block, (ad410.add ((x8_2).toNat * 8)).off + 5, none⟩ = some (.bool true) ∧ w'.cell? ⟨(ad410.add ((x8_2).toNat * 8)).block, (ad410.add ((x8_2).toNat * 8)).off + 6, none⟩ = some (.int .i64 ((rd_T38 t390 x8_2).f3.f1)) ∧ w'.cell? ⟨(ad410.add ((x8_2).toNat * 8)).block, (ad410.add ((x8_2).toNat * 8)).off + 7, none⟩ = some (.string ((rd_T38 t390 x8_2).f3.f2))) (ds := []) #[false, false, false, false, false, false, false, false, false, false, false, false, false, false, false, false, false, false, false, false, false, false, false, false, false, false] (by kernel_rfl) rfl rfl ⟨hx410_0, hx410_1, hx410_2, hx410_3, hx410_4, hx410_5, hx410_6, hx410_7, hx411_0, hx411_1, hx411_2, hx411_3, hx411_4, hx411_5, hx411_6, hx411_7⟩ (fun hHeld => ?_); refine with_tabW tithebarnlaw17_LevelsKeeps.tab20 tithebarnlaw17_LevelsKeeps.bits20 (fun HT_ HW_ => ?_)
                 generalize wr.drew = w48 at HO_0 HO_6 HO_401002 BK400 BK403 HB hx410_0 hx410_1 hx410_2 hx410_3 hx410_4 hx410_5 hx410_6 hx410_7 hx411_0 hx411_1 hx411_2 hx411_3 hx411_4 hx411_5 hx411_6 hx411_7 hHeld ⊢
                 refine pure_ (i := 0) (N := some 71) (v := ?_) (a' := ?_) #[true, false, false, false, false, false, false, false, false, false, false, false, false, false, false, false, false, false, false, false, false, false, false, false, false, false] rfl rfl (any_of HT_.out (by kernel_rfl)) (fun _ _ _ h => h) (Or.inl ⟨by rfl, ?_⟩) ?_ ?_
                 rotate_left
                 ·intro w'
                  go_simp
                  with_reducible rfl
                 rotate_left
                 ·simp only [Act.put, List.setIfInBounds_toArray, List.set_cons_zero, List.set_cons_succ, i64_w, i32_w]
                  rfl
                 refine pure_ (i := 1) (N := some 72) (v := ?_) (a' := ?_) #[true, true, false, false, false, false, false, false, false, false, false, false, false, false, false, false, false, false, false, false, false, false, false, false, false, false] rfl rfl (any_of HT_.out (by kernel_rfl)) (fun _ _ _ h => h) (Or.inl ⟨by rfl, ?_⟩) ?_ ?_
                 rotate_left
                 ·intro w'
                  go_simp
                  with_reducible rfl
                 rotate_left
                 ·simp only [Act.put, List.setIfInBounds_toArray, List.set_cons_zero, List.set_cons_succ, i64_w, i32_w]
                  rfl
                 refine pure_ (i := 2) (N := some 73) (v := ?_) (a' := ?_) #[true, true, true, false, false, false, false, false, false, false, false, false, false, false, false, false, false, false, false, false, false, false, false, false, false, false] rfl rfl (any_of HT_.out (by kernel_rfl)) (fun _ _ _ h => h) (Or.inl ⟨by rfl, ?_⟩) ?_ ?_
                 rotate_left
                 ·intro w'
                  go_simp
                  with_reducible rfl
                 rotate_left
                 ·simp only [Act.put, List.setIfInBounds_toArray, List.set_cons_zero, List.set_cons_succ, i64_w, i32_w]
                  rfl
                 refine pure_ (i := 3) (N := some 74) (v := ?_) (a' := ?_) #[true, true, true, true, false, false, false, false, false, false, false, false, false, false, false, false, false, false, false, false, false, false, false, false, false, false] rfl rfl (any_of HT_.out (by kernel_rfl)) (fun _ _ _ h => h) (Or.inl ⟨by rfl, ?_⟩) ?_ ?_
                 rotate_left
                 ·intro w'
                  go_simp
                  with_reducible rfl
                 rotate_left
                 ·simp only [Act.put, List.setIfInBounds_toArray, List.set_cons_zero, List.set_cons_succ, i64_w, i32_w]
                  rfl
                 refine pure_ (i := 4) (N := some 75) (v := ?_) (a' := ?_) #[true, true, true, true, true, false, false, false, false, false, false, false, false, false, false, false, false, false, false, false, false, false, false, false, false, false] rfl rfl (any_of HT_.out (by kernel_rfl)) (fun _ _ _ h => h) (Or.inl ⟨by rfl, ?_⟩) ?_ ?_
                 rotate_left
                 ·intro w'
                  go_simp
                  with_reducible rfl
                 rotate_left
                 ·simp only [Act.put, List.setIfInBounds_toArray, List.set_cons_zero, List.set_cons_succ, i64_w, i32_w]
                  rfl
                 refine take_ (i := 5) (N := some 76) (v := ?_) (a' := ?_) #[true, true, true, true, true, true, false, false, false, false, false, false, false, false, false, false, false, false, false, false, false, false, false, false, false, false] rfl rfl (take_ofW HT_.out HW_.out (by kernel_rfl)) (fun _ _ _ h => h) (Or.inl ⟨by rfl, ?_⟩) hHeld ?_ ?_
                 rotate_left
                 ·rintro w' ⟨s0, s1, s2, s3, s4, s5, s6, s7, s8, s9, s10, s11, s12, s13, s14, s15⟩
                  go_simp
                  with_reducible rfl
                 rotate_left
                 ·simp only [Act.put, List.setIfInBounds_toArray, List.set_cons_zero, List.set_cons_succ, i64_w, i32_w]
                  rfl
                 refine pure_ (i := 6) (N := some 77) (v := ?_) (a' := ?_) #[true, true, true, true, true, true, true, false, false, false, false, false, false, false, false, false, false, false, false, false, false, false, false, false, false, false] rfl rfl (any_of HT_.out (by kernel_rfl)) (fun _ _ _ h => h) (Or.inl ⟨by rfl, ?_⟩) ?_ ?_
                 rotate_left
                 ·intro w'
                  go_simp
                  with_reducible rfl
                 rotate_left
                 ·simp only [Act.put, List.setIfInBounds_toArray, List.set_cons_zero, List.set_cons_succ, i64_w, i32_w]
                  rfl
                 refine pure_ (i := 7) (N := some 78) (v := ?_) (a' := ?_) #[true, true, true, true, true, true, true, true, false, false, false, false, false, false, false, false, false, false, false, false, false, false, false, false, false, false] rfl rfl (any_of HT_.out (by kernel_rfl)) (fun _ _ _ h => h) (Or.inl ⟨by rfl, ?_⟩) ?_ ?_
                 rotate_left
                 ·intro w'
                  go_simp
                  with_reducible rfl
                 rotate_left
                 ·simp only [Act.put, List.setIfInBounds_toArray, List.set_cons_zero, List.set_cons_succ, i64_w, i32_w]
                  rfl
                 refine pure_ (i := 8) (N := some 79) (v := ?_) (a' := ?_) #[true, true, true, true, true, true, true, true, true, false, false, false, false, false, false, false, false, false, false, false, false, false, false, false, false, false] rfl rfl (any_of HT_.out (by kernel_rfl)) (fun _ _ _ h => h) (Or.inl ⟨by rfl, ?_⟩) ?_ ?_
                 rotate_left
                 ·intro w'
                  go_simp
                  with_reducible rfl
                 rotate_left
                 ·simp only [Act.put, List.setIfInBounds_toArray, List.set_cons_zero, List.set_cons_succ, i64_w, i32_w]
                  rfl
                 refine pure_ (i := 9) (N := some 80) (v := ?_) (a' := ?_) #[true, true, true, true, true, true, true, true, true, true, false, false, false, false, false, false, false, false, false, false, false, false, false, false, false, false] rfl rfl (any_of HT_.out (by kernel_rfl)) (fun _ _ _ h => h) (Or.inl ⟨by rfl, ?_⟩) ?_ ?_
                 rotate_left
                 ·intro w'
                  go_simp
                  with_reducible rfl
                 rotate_left
                 ·simp only [Act.put, List.setIfInBounds_toArray, List.set_cons_zero, List.set_cons_succ, i64_w, i32_w]
                  rfl
                 refine pure_ (i := 10) (N := some 81) (v := ?_) (a' := ?_) #[true, true, true, true, true, true, true, true, true, true, true, false, false, false, false, false, false, false, false, false, false, false, false, false, false, false] rfl rfl (any_of HT_.out (by kernel_rfl)) (fun _ _ _ h => h) (Or.inl ⟨by rfl, ?_⟩) ?_ ?_
                 rotate_left
                 ·intro w'
                  go_simp
                  with_reducible rfl
                 rotate_left
                 ·simp only [Act.put, List.setIfInBounds_toArray, List.set_cons_zero, List.set_cons_succ, i64_w, i32_w]
                  rfl
                 refine pure_ (i := 11) (N := some 82) (v := ?_) (a' := ?_) #[true, true, true, true, true, true, true, true, true, true, true, true, false, false, false, false, false, false, false, false, false, false, false, false, false, false] rfl rfl (any_of HT_.out (by kernel_rfl)) (fun _ _ _ h => h) (Or.inl ⟨by rfl, ?_⟩) ?_ ?_
                 rotate_left
                 ·intro w'
                  go_simp
                  with_reducible rfl
                 rotate_left
                 ·simp only [Act.put, List.setIfInBounds_toArray, List.set_cons_zero, List.set_cons_succ, i64_w, i32_w]
                  rfl
                 refine take_ (i := 12) (N := some 83) (v := ?_) (a' := ?_) #[true, true, true, true, true, true, true, true, true, true, true, true, true, false, false, false, false, false, false, false, false, false, false, false, false, false] rfl rfl (take_ofW HT_.out HW_.out (by kernel_rfl)) (fun _ _ _ h => h) (Or.inl ⟨by rfl, ?_⟩) hHeld ?_ ?_
                 rotate_left
                 ·rintro w' ⟨s0, s1, s2, s3, s4, s5, s6, s7, s8, s9, s10, s11, s12, s13, s14, s15⟩
                  go_simp
                  with_reducible rfl
                 rotate_left
                 ·simp only [Act.put, List.setIfInBounds_toArray, List.set_cons_zero, List.set_cons_succ, i64_w, i32_w]
                  rfl
                 refine pure_ (i := 13) (N := some 84) (v := ?_) (a' := ?_) #[true, true, true, true, true, true, true, true, true, true, true, true, true, true, false, false, false, false, false, false, false, false, false, false, false, false] rfl rfl (any_of HT_.out (by kernel_rfl)) (fun _ _ _ h => h) (Or.inl ⟨by rfl, ?_⟩) ?_ ?_
                 rotate_left
                 ·intro w'
                  go_simp
                  with_reducible rfl
                 rotate_left
                 ·simp only [Act.put, List.setIfInBounds_toArray, List.set_cons_zero, List.set_cons_succ, i64_w, i32_w]
                  rfl
                 refine pure_ (i := 14) (N := some 85) (v := ?_) (a' := ?_) #[true, true, true, true, true, true, true, true, true, true, true, true, true, true, true, false, false, false, false, false, false, false, false, false, false, false] rfl rfl (any_of HT_.out (by kernel_rfl)) (fun _ _ _ h => h) (Or.inl ⟨by rfl, ?_⟩) ?_ ?_
                 rotate_left
                 ·intro w'
                  go_simp
                  with_reducible rfl
                 rotate_left
                 ·simp only [Act.put, List.setIfInBounds_toArray, List.set_cons_zero, List.set_cons_succ, i64_w, i32_w]
                  rfl
                 refine pure_ (i := 15) (N := some 86) (v := undef) (a' := ?_) #[true, true, true, true, true, true, true, true, true, true, true, true, true, true, true, true, false, false, false, false, false, false, false, false, false, false] rfl rfl (any_of HT_.out (by kernel_rfl)) (fun _ _ _ h => h) (Or.inr ⟨by rfl, rfl⟩) ?_ ?_
                 rotate_left
                 ·simp only [Act.put, List.setIfInBounds_toArray, List.set_cons_zero, List.set_cons_succ, i64_w, i32_w]
                  rfl
                 refine pure_ (i := 16) (N := some 87) (v := undef) (a' := ?_) #[true, true, true, true, true, true, true, true, true, true, true, true, true, true, true, true, true, false, false, false, false, false, false, false, false, false] rfl rfl (any_of HT_.out (by kernel_rfl)) (fun _ _ _ h => h) (Or.inr ⟨by rfl, rfl⟩) ?_ ?_
                 rotate_left
                 ·simp only [Act.put, List.setIfInBounds_toArray, List.set_cons_zero, List.set_cons_succ, i64_w, i32_w]
                  rfl
                 refine pure_ (i := 17) (N := some 88) (v := undef) (a' := ?_) #[true, true, true, true, true, true, true, true, true, true, true, true, true, true, true, true, true, true, false, false, false, false, false, false, false, false] rfl rfl (any_of HT_.out (by kernel_rfl)) (fun _ _ _ h => h) (Or.inr ⟨by rfl, rfl⟩) ?_ ?_
                 rotate_left
                 ·simp only [Act.put, List.setIfInBounds_toArray, List.set_cons_zero, List.set_cons_succ, i64_w, i32_w]
                  rfl
                 refine pure_ (i := 18) (N := some 89) (v := undef) (a' := ?_) #[true, true, true, true, true, true, true, true, true, true, true, true, true, true, true, true, true, true, true, false, false, false, false, false, false, false] rfl rfl (any_of HT_.out (by kernel_rfl)) (fun _ _ _ h => h) (Or.inr ⟨by rfl, rfl⟩) ?_ ?_
                 rotate_left
                 ·simp only [Act.put, List.setIfInBounds_toArray, List.set_cons_zero, List.set_cons_succ, i64_w, i32_w]
                  rfl
                 refine pure_ (i := 19) (N := some 90) (v := undef) (a' := ?_) #[true, true, true, true, true, true, true, true, true, true, true, true, true, true, true, true, true, true, true, true, false, false, false, false, false, false] rfl rfl (any_of HT_.out (by kernel_rfl)) (fun _ _ _ h => h) (Or.inr ⟨by rfl, rfl⟩) ?_ ?_
                 rotate_left
                 ·simp only [Act.put, List.setIfInBounds_toArray, List.set_cons_zero, List.set_cons_succ, i64_w, i32_w]
                  rfl
                 refine pure_ (i := 20) (N := some 91) (v := undef) (a' := ?_) #[true, true, true, true, true, true, true, true, true, true, true, true, true, true, true, true, true, true, true, true, true, false, false, false, false, false] rfl rfl (any_of HT_.out (by kernel_rfl)) (fun _ _ _ h => h) (Or.inr ⟨by rfl, rfl⟩) ?_ ?_
                 rotate_left
                 ·simp only [Act.put, List.setIfInBounds_toArray, List.set_cons_zero, List.set_cons_succ, i64_w, i32_w]
                  rfl
                 refine pure_ (i := 21) (N := some 92) (v := undef) (a' := ?_) #[true, true, true, true, true, true, true, true, true, true, true, true, true, true, true, true, true, true, true, true, true, true, false, false, false, false] rfl rfl (any_of HT_.out (by kernel_rfl)) (fun _ _ _ h => h) (Or.inr ⟨by rfl, rfl⟩) ?_ ?_
                 rotate_left
                 ·simp only [Act.put, List.setIfInBounds_toArray, List.set_cons_zero, List.set_cons_succ, i64_w, i32_w]
                  rfl
                 refine pure_ (i := 22) (N := some 93) (v := undef) (a' := ?_) #[true, true, true, true, true, true, true, true, true, true, true, true, true, true, true, true, true, true, true, true, true, true, true, false, false, false] rfl rfl (any_of HT_.out (by kernel_rfl)) (fun _ _ _ h => h) (Or.inr ⟨by rfl, rfl⟩) ?_ ?_
                 rotate_left
                 ·simp only [Act.put, List.setIfInBounds_toArray, List.set_cons_zero, List.set_cons_succ, i64_w, i32_w]
                  rfl
                 refine pure_ (i := 23) (N := some 94) (v := undef) (a' := ?_) #[true, true, true, true, true, true, true, true, true, true, true, true, true, true, true, true, true, true, true, true, true, true, true, true, false, false] rfl rfl (any_of HT_.out (by kernel_rfl)) (fun _ _ _ h => h) (Or.inr ⟨by rfl, rfl⟩) ?_ ?_
                 rotate_left
                 ·simp only [Act.put, List.setIfInBounds_toArray, List.set_cons_zero, List.set_cons_succ, i64_w, i32_w]
                  rfl
                 refine pure_ (i := 24) (N := some 95) (v := undef) (a' := ?_) #[true, true, true, true, true, true, true, true, true, true, true, true, true, true, true, true, true, true, true, true, true, true, true, true, true, false] rfl rfl (any_of HT_.out (by kernel_rfl)) (fun _ _ _ h => h) (Or.inr ⟨by rfl, rfl⟩) ?_ ?_
                 rotate_left
                 ·simp only [Act.put, List.setIfInBounds_toArray, List.set_cons_zero, List.set_cons_succ, i64_w, i32_w]
                  rfl
                 refine pure_ (i := 25) (N := some 96) (v := ?_) (a' := ?_) #[true, true, true, true, true, true, true, true, true, true, true, true, true, true, true, true, true, true, true, true, true, true, true, true, true, true] rfl rfl (any_of HT_.out (by kernel_rfl)) (fun _ _ _ h => h) (Or.inl ⟨by rfl, ?_⟩) ?_ ?_
                 rotate_left
                 ·intro w'
                  go_simp
                  with_reducible rfl
                 rotate_left
                 ·simp only [Act.put, List.setIfInBounds_toArray, List.set_cons_zero, List.set_cons_succ, i64_w, i32_w]
                  rfl
                 refine done_ (done_of HT_.out (by kernel_rfl)) ?_
                 try go_wp2
                 go_meet
                 case rel => exact ⟨_, (true), (by first | rfl | (simp; done) | (simp [*]; done)), H', ⟨by have := HJ5.out; have := HK2.out; have := HK3.out; first | omega | exact Nat.le_refl _⟩, ⟨by (with_reducible repeat (first | apply Kd.V_alloc | apply Kd.V_drewN | apply Kd.V_drew)); exact HO_0.out⟩, ⟨by (with_reducible repeat (first | apply Kd.R_alloc | apply Kd.R_drewN | apply Kd.R_drew)); exact HO_6.out⟩, ⟨by (with_reducible repeat (first | apply Kd.R_alloc | apply Kd.R_drewN | apply Kd.R_drew)); exact HO_401002.out⟩, ⟨by (with_reducible repeat (first | refine blk_drewN ?_ _ | refine blk_drew ?_ | refine blk_alloc ?_ _)); exact BK400.out⟩, ⟨by (with_reducible repeat (first | refine blk_drewN ?_ _ | refine blk_drew ?_ | refine blk_alloc ?_ _)); exact BK403.out⟩, ⟨by repeat (first | (with_reducible first | exact HB.out | apply below_alloc | apply pw_below_drewN | apply below_drew1 | refine below_set ?_ GE400.out | refine below_set ?_ GE403.out) | exact HB.out)⟩⟩
                ·replace c47 := Bool.eq_false_iff.mpr c47
                 subst c47
                 have H1 : ((tithebarnref17_Overlap.f ((rd_T38 t390 x8_2).f0) ((rd_T38 t390 x8_2).f1) (false) ((rd_T38 t390 x8_2).f2.f1) ((rd_T38 t390 x8_2).f2.f2) (false) ((rd_T38 t390 x8_2).f3.f1) ((rd_T38 t390 x8_2).f3.f2) ((rd_T38 t390 x8_2).f0) ((rd_T38 t390 x8_2).f1) (false) ((rd_T38 t390 x8_2).f2.f1) ((rd_T38 t390 x8_2).f2.f2) (false) ((rd_T38 t390 x8_2).f3.f1) ((rd_T38 t390 x8_2).f3.f2)).bind fun t414 => (tithebarnlaw17_LevelsKeeps.j3 k3 t390 x6_2 x7_2 x8_2 (!t414) t393 t394 t395 t398 x404000_2 x404001_2 x404002_2 x404003_2 x404004_2 x404005_2 x404006_2 x404007_2)) = some r := by rw [if_neg (show ¬ (false = true) by decide)] at H; exact H
                 clear H
                 have H := H1
                 clear H1
                 replace H := Option.bind_eq_some_iff.mp H
                 obtain ⟨t414, A490, H⟩ := H
                 replace H : (tithebarnlaw17_LevelsKeeps.j3 k3 t390 x6_2 x7_2 x8_2 (!t414) t393 t394 t395 t398 x404000_2 x404001_2 x404002_2 x404003_2 x404004_2 x404005_2 x404006_2 x404007_2) = some r := H
                 have A49 := Aside0.mk A490
                 clear A490
                 have H' := Aside0.mk H
                 clear H
                 try go_wp2
                 have n0_ := Aside0.mk (Kd.V_drew HO_0.out)
                 have n1_ := Aside0.mk (Kd.R_drew HO_6.out)
                 have n2_ := Aside0.mk (Kd.R_drew HO_401002.out)
                 have n3_ := Aside0.mk (blk_drew BK400.out)
                 have n4_ := Aside0.mk (blk_drew BK403.out)
                 have n5_ := Aside0.mk (below_drew1 HB.out)
                 clear HO_0
                 clear HO_6
                 clear HO_401002
                 clear BK400
                 clear BK403
                 clear HB
                 have HO_0 := n0_
                 have HO_6 := n1_
                 have HO_401002 := n2_
                 have BK400 := n3_
                 have BK403 := n4_
                 have HB := n5_
                 clear n0_ n1_ n2_ n3_ n4_ n5_
                 have p410 : 0 ≤ (x8_2 : Int) := of_decide_eq_true (by with_reducible assumption)
                 have q410 : x8_2 < (t390.length : Int) := of_decide_eq_true (by with_reducible assumption)
                 obtain ⟨ad410, e410, hx410_0, hx410_1, hx410_2, hx410_3, hx410_4, hx410_5, hx410_6, hx410_7⟩ := at_T38 (Kd.V_reads' HO_0.out).2.2 x8_2 p410 q410
                 (try rw [← Nbq43.out] at hx410_2)
                 (try rw [← Nbq46.out] at hx410_2)
                 (try rw [← Nbq43.out] at hx410_5)
                 (try rw [← Nbq46.out] at hx410_5)
                 cases e410
                 replace p410 := eq_true p410
                 replace q410 := eq_true q410
                 have p411 : 0 ≤ (x8_2 : Int) := of_decide_eq_true (by with_reducible assumption)
                 have q411 : x8_2 < (t390.length : Int) := of_decide_eq_true (by with_reducible assumption)
                 obtain ⟨ad411, e411, hx411_0, hx411_1, hx411_2, hx411_3, hx411_4, hx411_5, hx411_6, hx411_7⟩ := at_T38 (Kd.V_reads' HO_0.out).2.2 x8_2 p411 q411
                 (try rw [← Nbq43.out] at hx411_2)
                 (try rw [← Nbq46.out] at hx411_2)
                 (try rw [← Nbq43.out] at hx411_5)
                 (try rw [← Nbq46.out] at hx411_5)
                 obtain rfl : ad410 = ad411 := (by injection e411)
                 replace p411 := eq_true p411
                 replace q411 := eq_true q411
                 have p412 : 0 ≤ (x8_2 : Int) := of_decide_eq_true (by with_reducible assumption)
                 have q412 : x8_2 < (t390.length : Int) := of_decide_eq_true (by with_reducible assumption)
                 obtain ⟨ad412, e412, hx412_0, hx412_1, hx412_2, hx412_3, hx412_4, hx412_5, hx412_6, hx412_7⟩ := at_T38 (Kd.V_reads' HO_0.out).2.2 x8_2 p412 q412
                 (try rw [← Nbq43.out] at hx412_2)
                 (try rw [← Nbq46.out] at hx412_2)
                 (try rw [← Nbq43.out] at hx412_5)
                 (try rw [← Nbq46.out] at hx412_5)
                 obtain rfl : ad410 = ad412 := (by injection e412)
                 replace p412 := eq_true p412
                 replace q412 := eq_true q412
                 have p413 : 0 ≤ (x8_2 : Int) := of_decide_eq_true (by with_reducible assumption)
                 have q413 : x8_2 < (t390.length : Int) := of_decide_eq_true (by with_reducible assumption)
                 obtain ⟨ad413, e413, hx413_0, hx413_1, hx413_2, hx413_3, hx413_4, hx413_5, hx413_6, hx413_7⟩ := at_T38 (Kd.V_reads' HO_0.out).2.2 x8_2 p413 q413
                 (try rw [← Nbq43.out] at hx413_2)
                 (try rw [← Nbq46.out] at hx413_2)
                 (try rw [← Nbq43.out] at hx413_5)
                 (try rw [← Nbq46.out] at hx413_5)
                 obtain rfl : ad410 = ad413 := (by injection e413)
                 replace p413 := eq_true p413
                 replace q413 := eq_true q413
                 refine start_ (n := 26) (S := fun w' => w'.cell? (ad410.add ((x8_2).toNat * 8)) = some (.int .i64 ((rd_T38 t390 x8_2).f0)) ∧ w'.cell? ⟨(ad410.add ((x8_2).toNat * 8)).block, (ad410.add ((x8_2).toNat * 8)).off + 1, none⟩ = some (.int .i64 ((rd_T38 t390 x8_2).f1)) ∧ w'.cell? ⟨(ad410.add ((x8_2).toNat * 8)).block, (ad410.add ((x8_2).toNat * 8)).off + 2, none⟩ = some (.bool false) ∧ w'.cell? ⟨(ad410.add ((x8_2).toNat * 8)).block, (ad410.add ((x8_2).toNat * 8)).off + 3, none⟩ = some (.int .i64 ((rd_T38 t390 x8_2).f2.f1)) ∧ w'.cell? ⟨(ad410.add ((x8_2).toNat * 8)).block, (ad410.add ((x8_2).toNat * 8)).off + 4, none⟩ = some (.string ((rd_T38 t390 x8_2).f2.f2)) ∧ w'.cell? ⟨(ad410.add ((x8_2).toNat * 8)).block, (ad410.add ((x8_2).toNat * 8)).off + 5, none⟩ = some (.bool false) ∧ w'.cell? ⟨(ad410.add ((x8_2).toNat * 8)).block, (ad410.add ((x8_2).toNat * 8)).off + 6, none⟩ = some (.int .i64 ((rd_T38 t390 x8_2).f3.f1)) ∧ w'.cell? ⟨(ad410.add ((x8_2).toNat * 8)).block, (ad410.add ((x8_2).toNat * 8)).off + 7, none⟩ = some (.string ((rd_T38 t390 x8_2).f3.f2)) ∧ w'.cell? (ad410.add ((x8_2).toNat * 8)) = some (.int .i64 ((rd_T38 t390 x8_2).f0)) ∧ w'.cell? ⟨(ad410.add ((x8_2).toNat * 8)).block, (ad410.add ((x8_2).toNat * 8)).off + 1, none⟩ = some (.int .i64 ((rd_T38 t390 x8_2).f1)) ∧ w'.cell? ⟨(ad410.add ((x8_2).toNat * 8)).block, (ad410.add ((x8_2).toNat * 8)).off + 2, none⟩ = some (.bool (false)) ∧ w'.cell? ⟨(ad410.add ((x8_2).toNat * 8)).block, (ad410.add ((x8_2).toNat * 8)).off + 3, none⟩ = some (.int .i64 ((rd_T38 t390 x8_2).f2.f1)) ∧ w'.cell? ⟨(ad410.add ((x8_2).toNat * 8)).block, (ad410.add ((x8_2).toNat * 8)).off + 4, none⟩ = some (.string ((rd_T38 t390 x8_2).f2.f2)) ∧ w'.cell? ⟨(ad410.add ((x8_2).toNat * 8)).block, (ad410.add ((x8_2).toNat * 8)).off + 5, none⟩ = some (.bool false) ∧ w'.cell? ⟨(ad410.add ((x8_2).toNat * 8)).block, (ad410.add ((x8_2).toNat * 8)).off + 6, none⟩ = some (.int .i64 ((rd_T38 t390 x8_2).f3.f1)) ∧ w'.cell? ⟨(ad410.add ((x8_2).toNat * 8)).block, (ad410.add ((x8_2).toNat * 8)).off + 7, none⟩ = some (.string ((rd_T38 t390 x8_2).f3.f2)) ∧ w'.cell? (ad410.add ((x8_2).toNat * 8)) = some (.int .i64 ((rd_T38 t390 x8_2).f0)) ∧ w'.cell? ⟨(ad410.add ((x8_2).toNat * 8)).block, (ad410.add ((x8_2).toNat * 8)).off + 1, none⟩ = some (.int .i64 ((rd_T38 t390 x8_2).f1)) ∧ w'.cell? ⟨(ad410.add ((x8_2).toNat * 8)).block, (ad410.add ((x8_2).toNat * 8)).off + 2, none⟩ = some (.bool (false)) ∧ w'.cell? ⟨(ad410.add ((x8_2).toNat * 8)).block, (ad410.add ((x8_2).toNat * 8)).off + 3, none⟩ = some (.int .i64 ((rd_T38 t390 x8_2).f2.f1)) ∧ w'.cell? ⟨(ad410.add ((x8_2).toNat * 8)).block, (ad410.add ((x8_2).toNat * 8)).off + 4, none⟩ = some (.string ((rd_T38 t390 x8_2).f2.f2)) ∧ w'.cell? ⟨(ad410.add ((x8_2).toNat * 8)).block, (ad410.add ((x8_2).toNat * 8)).off + 5, none⟩ = some (.bool (false)) ∧ w'.cell? ⟨(ad410.add ((x8_2).toNat * 8)).block, (ad410.add ((x8_2).toNat * 8)).off + 6, none⟩ = some (.int .i64 ((rd_T38 t390 x8_2).f3.f1)) ∧ w'.cell? ⟨(ad410.add ((x8_2).toNat * 8)).block, (ad410.add ((x8_2).toNat * 8)).off + 7, none⟩ = some (.string ((rd_T38 t390 x8_2).f3.f2)) ∧ w'.cell? (ad410.add ((x8_2).toNat * 8)) = some (.int .i64 ((rd_T38 t390 x8_2).f0)) ∧ w'.cell? ⟨(ad410.add ((x8_2).toNat * 8)).block, (ad410.add ((x8_2).toNat * 8)).off + 1, none⟩ = some (.int .i64 ((rd_T38 t390 x8_2).f1)) ∧ w'.cell? ⟨(ad410.add ((x8_2).toNat * 8)).block, (ad410.add ((x8_2).toNat * 8)).off + 2, none⟩ = some (.bool (false)) ∧ w'.cell? ⟨(ad410.add ((x8_2).toNat * 8)).block, (ad410.add ((x8_2).toNat * 8)).off + 3, none⟩ = some (.int .i64 ((rd_T38 t390 x8_2).f2.f1)) ∧ w'.cell? ⟨(ad410.add ((x8_2).toNat * 8)).block, (ad410.add ((x8_2).toNat * 8)).off + 4, none⟩ = some (.string ((rd_T38 t390 x8_2).f2.f2)) ∧ w'.cell? ⟨(ad410.add ((x8_2).toNat * 8)).block, (ad410.add ((x8_2).toNat * 8)).off + 5, none⟩ = some (.bool (false)) ∧ w'.cell? ⟨(ad410.add ((x8_2).toNat * 8)).block, (ad410.add ((x8_2).toNat * 8)).off + 6, none⟩ = some (.int .i64 ((rd_T38 t390 x8_2).f3.f1)) ∧ w'.cell? ⟨(ad410.add ((x8_2).toNat * 8)).block, (ad410.add ((x8_2).toNat * 8)).off + 7, none⟩ = some (.string ((rd_T38 t390 x8_2).f3.f2))) (ds := []) #[false, false, false, false, false, false, false, false, false, false, false, false, false, false, false, false, false, false, false, false, false, false, false, false, false, false] (by kernel_rfl) rfl rfl ⟨hx410_0, hx410_1, hx410_2, hx410_3, hx410_4, hx410_5, hx410_6, hx410_7, hx411_0, hx411_1, hx411_2, hx411_3, hx411_4, hx411_5, hx411_6, hx411_7, hx412_0, hx412_1, hx412_2, hx412_3, hx412_4, hx412_5, hx412_6, hx412_7, hx413_0, hx413_1, hx413_2, hx413_3, hx413_4, hx413_5, hx413_6, hx413_7⟩ (fun hHeld => ?_); refine with_tabW tithebarnlaw17_LevelsKeeps.tab20 tithebarnlaw17_LevelsKeeps.bits20 (fun HT_ HW_ => ?_)
                 generalize wr.drew = w50 at HO_0 HO_6 HO_401002 BK400 BK403 HB hx410_0 hx410_1 hx410_2 hx410_3 hx410_4 hx410_5 hx410_6 hx410_7 hx411_0 hx411_1 hx411_2 hx411_3 hx411_4 hx411_5 hx411_6 hx411_7 hx412_0 hx412_1 hx412_2 hx412_3 hx412_4 hx412_5 hx412_6 hx412_7 hx413_0 hx413_1 hx413_2 hx413_3 hx413_4 hx413_5 hx413_6 hx413_7 hHeld ⊢
                 refine pure_ (i := 0) (N := some 71) (v := ?_) (a' := ?_) #[true, false, false, false, false, false, false, false, false, false, false, false, false, false, false, false, false, false, false, false, false, false, false, false, false, false] rfl rfl (any_of HT_.out (by kernel_rfl)) (fun _ _ _ h => h) (Or.inl ⟨by rfl, ?_⟩) ?_ ?_
                 rotate_left
                 ·intro w'
                  go_simp
                  with_reducible rfl
                 rotate_left
                 ·simp only [Act.put, List.setIfInBounds_toArray, List.set_cons_zero, List.set_cons_succ, i64_w, i32_w]
                  rfl
                 refine pure_ (i := 1) (N := some 72) (v := ?_) (a' := ?_) #[true, true, false, false, false, false, false, false, false, false, false, false, false, false, false, false, false, false, false, false, false, false, false, false, false, false] rfl rfl (any_of HT_.out (by kernel_rfl)) (fun _ _ _ h => h) (Or.inl ⟨by rfl, ?_⟩) ?_ ?_
                 rotate_left
                 ·intro w'
                  go_simp
                  with_reducible rfl
                 rotate_left
                 ·simp only [Act.put, List.setIfInBounds_toArray, List.set_cons_zero, List.set_cons_succ, i64_w, i32_w]
                  rfl
                 refine pure_ (i := 2) (N := some 73) (v := ?_) (a' := ?_) #[true, true, true, false, false, false, false, false, false, false, false, false, false, false, false, false, false, false, false, false, false, false, false, false, false, false] rfl rfl (any_of HT_.out (by kernel_rfl)) (fun _ _ _ h => h) (Or.inl ⟨by rfl, ?_⟩) ?_ ?_
                 rotate_left
                 ·intro w'
                  go_simp
                  with_reducible rfl
                 rotate_left
                 ·simp only [Act.put, List.setIfInBounds_toArray, List.set_cons_zero, List.set_cons_succ, i64_w, i32_w]
                  rfl
                 refine pure_ (i := 3) (N := some 74) (v := ?_) (a' := ?_) #[true, true, true, true, false, false, false, false, false, false, false, false, false, false, false, false, false, false, false, false, false, false, false, false, false, false] rfl rfl (any_of HT_.out (by kernel_rfl)) (fun _ _ _ h => h) (Or.inl ⟨by rfl, ?_⟩) ?_ ?_
                 rotate_left
                 ·intro w'
                  go_simp
                  with_reducible rfl
                 rotate_left
                 ·simp only [Act.put, List.setIfInBounds_toArray, List.set_cons_zero, List.set_cons_succ, i64_w, i32_w]
                  rfl
                 refine pure_ (i := 4) (N := some 75) (v := ?_) (a' := ?_) #[true, true, true, true, true, false, false, false, false, false, false, false, false, false, false, false, false, false, false, false, false, false, false, false, false, false] rfl rfl (any_of HT_.out (by kernel_rfl)) (fun _ _ _ h => h) (Or.inl ⟨by rfl, ?_⟩) ?_ ?_
                 rotate_left
                 ·intro w'
                  go_simp
                  with_reducible rfl
                 rotate_left
                 ·simp only [Act.put, List.setIfInBounds_toArray, List.set_cons_zero, List.set_cons_succ, i64_w, i32_w]
                  rfl
                 refine take_ (i := 5) (N := some 76) (v := ?_) (a' := ?_) #[true, true, true, true, true, true, false, false, false, false, false, false, false, false, false, false, false, false, false, false, false, false, false, false, false, false] rfl rfl (take_ofW HT_.out HW_.out (by kernel_rfl)) (fun _ _ _ h => h) (Or.inl ⟨by rfl, ?_⟩) hHeld ?_ ?_
                 rotate_left
                 ·rintro w' ⟨s0, s1, s2, s3, s4, s5, s6, s7, s8, s9, s10, s11, s12, s13, s14, s15, s16, s17, s18, s19, s20, s21, s22, s23, s24, s25, s26, s27, s28, s29, s30, s31⟩
                  go_simp
                  with_reducible rfl
                 rotate_left
                 ·simp only [Act.put, List.setIfInBounds_toArray, List.set_cons_zero, List.set_cons_succ, i64_w, i32_w]
                  rfl
                 refine pure_ (i := 6) (N := some 77) (v := ?_) (a' := ?_) #[true, true, true, true, true, true, true, false, false, false, false, false, false, false, false, false, false, false, false, false, false, false, false, false, false, false] rfl rfl (any_of HT_.out (by kernel_rfl)) (fun _ _ _ h => h) (Or.inl ⟨by rfl, ?_⟩) ?_ ?_
                 rotate_left
                 ·intro w'
                  go_simp
                  with_reducible rfl
                 rotate_left
                 ·simp only [Act.put, List.setIfInBounds_toArray, List.set_cons_zero, List.set_cons_succ, i64_w, i32_w]
                  rfl
                 refine pure_ (i := 7) (N := some 78) (v := ?_) (a' := ?_) #[true, true, true, true, true, true, true, true, false, false, false, false, false, false, false, false, false, false, false, false, false, false, false, false, false, false] rfl rfl (any_of HT_.out (by kernel_rfl)) (fun _ _ _ h => h) (Or.inl ⟨by rfl, ?_⟩) ?_ ?_
                 rotate_left
                 ·intro w'
                  go_simp
                  with_reducible rfl
                 rotate_left
                 ·simp only [Act.put, List.setIfInBounds_toArray, List.set_cons_zero, List.set_cons_succ, i64_w, i32_w]
                  rfl
                 refine pure_ (i := 8) (N := some 79) (v := ?_) (a' := ?_) #[true, true, true, true, true, true, true, true, true, false, false, false, false, false, false, false, false, false, false, false, false, false, false, false, false, false] rfl rfl (any_of HT_.out (by kernel_rfl)) (fun _ _ _ h => h) (Or.inl ⟨by rfl, ?_⟩) ?_ ?_
                 rotate_left
                 ·intro w'
                  go_simp
                  with_reducible rfl
                 rotate_left
                 ·simp only [Act.put, List.setIfInBounds_toArray, List.set_cons_zero, List.set_cons_succ, i64_w, i32_w]
                  rfl
                 refine pure_ (i := 9) (N := some 80) (v := ?_) (a' := ?_) #[true, true, true, true, true, true, true, true, true, true, false, false, false, false, false, false, false, false, false, false, false, false, false, false, false, false] rfl rfl (any_of HT_.out (by kernel_rfl)) (fun _ _ _ h => h) (Or.inl ⟨by rfl, ?_⟩) ?_ ?_
                 rotate_left
                 ·intro w'
                  go_simp
                  with_reducible rfl
                 rotate_left
                 ·simp only [Act.put, List.setIfInBounds_toArray, List.set_cons_zero, List.set_cons_succ, i64_w, i32_w]
                  rfl
                 refine pure_ (i := 10) (N := some 81) (v := ?_) (a' := ?_) #[true, true, true, true, true, true, true, true, true, true, true, false, false, false, false, false, false, false, false, false, false, false, false, false, false, false] rfl rfl (any_of HT_.out (by kernel_rfl)) (fun _ _ _ h => h) (Or.inl ⟨by rfl, ?_⟩) ?_ ?_
                 rotate_left
                 ·intro w'
                  go_simp
                  with_reducible rfl
                 rotate_left
                 ·simp only [Act.put, List.setIfInBounds_toArray, List.set_cons_zero, List.set_cons_succ, i64_w, i32_w]
                  rfl
                 refine pure_ (i := 11) (N := some 82) (v := ?_) (a' := ?_) #[true, true, true, true, true, true, true, true, true, true, true, true, false, false, false, false, false, false, false, false, false, false, false, false, false, false] rfl rfl (any_of HT_.out (by kernel_rfl)) (fun _ _ _ h => h) (Or.inl ⟨by rfl, ?_⟩) ?_ ?_
                 rotate_left
                 ·intro w'
                  go_simp
                  with_reducible rfl
                 rotate_left
                 ·simp only [Act.put, List.setIfInBounds_toArray, List.set_cons_zero, List.set_cons_succ, i64_w, i32_w]
                  rfl
                 refine take_ (i := 12) (N := some 83) (v := ?_) (a' := ?_) #[true, true, true, true, true, true, true, true, true, true, true, true, true, false, false, false, false, false, false, false, false, false, false, false, false, false] rfl rfl (take_ofW HT_.out HW_.out (by kernel_rfl)) (fun _ _ _ h => h) (Or.inl ⟨by rfl, ?_⟩) hHeld ?_ ?_
                 rotate_left
                 ·rintro w' ⟨s0, s1, s2, s3, s4, s5, s6, s7, s8, s9, s10, s11, s12, s13, s14, s15, s16, s17, s18, s19, s20, s21, s22, s23, s24, s25, s26, s27, s28, s29, s30, s31⟩
                  go_simp
                  with_reducible rfl
                 rotate_left
                 ·simp only [Act.put, List.setIfInBounds_toArray, List.set_cons_zero, List.set_cons_succ, i64_w, i32_w]
                  rfl
                 refine pure_ (i := 13) (N := some 84) (v := ?_) (a' := ?_) #[true, true, true, true, true, true, true, true, true, true, true, true, true, true, false, false, false, false, false, false, false, false, false, false, false, false] rfl rfl (any_of HT_.out (by kernel_rfl)) (fun _ _ _ h => h) (Or.inl ⟨by rfl, ?_⟩) ?_ ?_
                 rotate_left
                 ·intro w'
                  go_simp
                  with_reducible rfl
                 rotate_left
                 ·simp only [Act.put, List.setIfInBounds_toArray, List.set_cons_zero, List.set_cons_succ, i64_w, i32_w]
                  rfl
                 refine pure_ (i := 14) (N := some 85) (v := ?_) (a' := ?_) #[true, true, true, true, true, true, true, true, true, true, true, true, true, true, true, false, false, false, false, false, false, false, false, false, false, false] rfl rfl (any_of HT_.out (by kernel_rfl)) (fun _ _ _ h => h) (Or.inl ⟨by rfl, ?_⟩) ?_ ?_
                 rotate_left
                 ·intro w'
                  go_simp
                  with_reducible rfl
                 rotate_left
                 ·simp only [Act.put, List.setIfInBounds_toArray, List.set_cons_zero, List.set_cons_succ, i64_w, i32_w]
                  rfl
                 refine pure_ (i := 15) (N := some 86) (v := ?_) (a' := ?_) #[true, true, true, true, true, true, true, true, true, true, true, true, true, true, true, true, false, false, false, false, false, false, false, false, false, false] rfl rfl (any_of HT_.out (by kernel_rfl)) (fun _ _ _ h => h) (Or.inl ⟨by rfl, ?_⟩) ?_ ?_
                 rotate_left
                 ·intro w'
                  go_simp
                  with_reducible rfl
                 rotate_left
                 ·simp only [Act.put, List.setIfInBounds_toArray, List.set_cons_zero, List.set_cons_succ, i64_w, i32_w]
                  rfl
                 refine pure_ (i := 16) (N := some 87) (v := ?_) (a' := ?_) #[true, true, true, true, true, true, true, true, true, true, true, true, true, true, true, true, true, false, false, false, false, false, false, false, false, false] rfl rfl (any_of HT_.out (by kernel_rfl)) (fun _ _ _ h => h) (Or.inl ⟨by rfl, ?_⟩) ?_ ?_
                 rotate_left
                 ·intro w'
                  go_simp
                  with_reducible rfl
                 rotate_left
                 ·simp only [Act.put, List.setIfInBounds_toArray, List.set_cons_zero, List.set_cons_succ, i64_w, i32_w]
                  rfl
                 refine pure_ (i := 17) (N := some 88) (v := ?_) (a' := ?_) #[true, true, true, true, true, true, true, true, true, true, true, true, true, true, true, true, true, true, false, false, false, false, false, false, false, false] rfl rfl (any_of HT_.out (by kernel_rfl)) (fun _ _ _ h => h) (Or.inl ⟨by rfl, ?_⟩) ?_ ?_
                 rotate_left
                 ·intro w'
                  go_simp
                  with_reducible rfl
                 rotate_left
                 ·simp only [Act.put, List.setIfInBounds_toArray, List.set_cons_zero, List.set_cons_succ, i64_w, i32_w]
                  rfl
                 refine pure_ (i := 19) (N := some 90) (v := ?_) (a' := ?_) #[true, true, true, true, true, true, true, true, true, true, true, true, true, true, true, true, true, true, false, true, false, false, false, false, false, false] rfl rfl (any_of HT_.out (by kernel_rfl)) (fun _ _ _ h => h) (Or.inl ⟨by rfl, ?_⟩) ?_ ?_
                 rotate_left
                 ·intro w'
                  go_simp
                  with_reducible rfl
                 rotate_left
                 ·simp only [Act.put, List.setIfInBounds_toArray, List.set_cons_zero, List.set_cons_succ, i64_w, i32_w]
                  rfl
                 refine pure_ (i := 20) (N := some 91) (v := ?_) (a' := ?_) #[true, true, true, true, true, true, true, true, true, true, true, true, true, true, true, true, true, true, false, true, true, false, false, false, false, false] rfl rfl (any_of HT_.out (by kernel_rfl)) (fun _ _ _ h => h) (Or.inl ⟨by rfl, ?_⟩) ?_ ?_
                 rotate_left
                 ·intro w'
                  go_simp
                  with_reducible rfl
                 rotate_left
                 ·simp only [Act.put, List.setIfInBounds_toArray, List.set_cons_zero, List.set_cons_succ, i64_w, i32_w]
                  rfl
                 refine pure_ (i := 21) (N := some 92) (v := ?_) (a' := ?_) #[true, true, true, true, true, true, true, true, true, true, true, true, true, true, true, true, true, true, false, true, true, true, false, false, false, false] rfl rfl (any_of HT_.out (by kernel_rfl)) (fun _ _ _ h => h) (Or.inl ⟨by rfl, ?_⟩) ?_ ?_
                 rotate_left
                 ·intro w'
                  go_simp
                  with_reducible rfl
                 rotate_left
                 ·simp only [Act.put, List.setIfInBounds_toArray, List.set_cons_zero, List.set_cons_succ, i64_w, i32_w]
                  rfl
                 refine take_ (i := 18) (N := some 89) (v := ?_) (a' := ?_) #[true, true, true, true, true, true, true, true, true, true, true, true, true, true, true, true, true, true, true, true, true, true, false, false, false, false] rfl rfl (take_ofW HT_.out HW_.out (by kernel_rfl)) (fun _ _ _ h => h) (Or.inl ⟨by rfl, ?_⟩) hHeld ?_ ?_
                 rotate_left
                 ·rintro w' ⟨s0, s1, s2, s3, s4, s5, s6, s7, s8, s9, s10, s11, s12, s13, s14, s15, s16, s17, s18, s19, s20, s21, s22, s23, s24, s25, s26, s27, s28, s29, s30, s31⟩
                  go_simp
                  with_reducible rfl
                 rotate_left
                 ·simp only [Act.put, List.setIfInBounds_toArray, List.set_cons_zero, List.set_cons_succ, i64_w, i32_w]
                  rfl
                 refine take_ (i := 22) (N := some 93) (v := ?_) (a' := ?_) #[true, true, true, true, true, true, true, true, true, true, true, true, true, true, true, true, true, true, true, true, true, true, true, false, false, false] rfl rfl (take_ofW HT_.out HW_.out (by kernel_rfl)) (fun _ _ _ h => h) (Or.inl ⟨by rfl, ?_⟩) hHeld ?_ ?_
                 rotate_left
                 ·rintro w' ⟨s0, s1, s2, s3, s4, s5, s6, s7, s8, s9, s10, s11, s12, s13, s14, s15, s16, s17, s18, s19, s20, s21, s22, s23, s24, s25, s26, s27, s28, s29, s30, s31⟩
                  go_simp
                  with_reducible rfl
                 rotate_left
                 ·simp only [Act.put, List.setIfInBounds_toArray, List.set_cons_zero, List.set_cons_succ, i64_w, i32_w]
                  rfl
                 refine one_ (i := 23) (N := some 94) #[true, true, true, true, true, true, true, true, true, true, true, true, true, true, true, true, true, true, true, true, true, true, true, true, false, false] rfl rfl (one_of HT_.out (by kernel_rfl)) (by decide) (fun K hK => ?_)
                 refine goes_ Try.func20 (by kernel_rfl) rfl #[.agg #[.int .i64 ((rd_T38 t390 x8_2).f0), .int .i64 ((rd_T38 t390 x8_2).f1), .bool false, .int .i64 ((rd_T38 t390 x8_2).f2.f1), .string ((rd_T38 t390 x8_2).f2.f2), .bool false, .int .i64 ((rd_T38 t390 x8_2).f3.f1), .string ((rd_T38 t390 x8_2).f3.f2)], .agg #[.int .i64 ((rd_T38 t390 x8_2).f0), .int .i64 ((rd_T38 t390 x8_2).f1), .bool false, .int .i64 ((rd_T38 t390 x8_2).f2.f1), .string ((rd_T38 t390 x8_2).f2.f2), .bool false, .int .i64 ((rd_T38 t390 x8_2).f3.f1), .string ((rd_T38 t390 x8_2).f3.f2)]] (by rfl) rfl rfl (by (try simp only [List.map_toArray, List.map_cons, List.map_nil]); first | done | rfl | (simp only [List.length_drop, List.length_take]; rfl)) ?_
                 with_reducible refine (tithebarnref17_Overlap.calls ((rd_T38 t390 x8_2).f0) ((rd_T38 t390 x8_2).f1) false ((rd_T38 t390 x8_2).f2.f1) ((rd_T38 t390 x8_2).f2.f2) false ((rd_T38 t390 x8_2).f3.f1) ((rd_T38 t390 x8_2).f3.f2) ((rd_T38 t390 x8_2).f0) ((rd_T38 t390 x8_2).f1) false ((rd_T38 t390 x8_2).f2.f1) ((rd_T38 t390 x8_2).f2.f2) false ((rd_T38 t390 x8_2).f3.f1) ((rd_T38 t390 x8_2).f3.f2) t414 _ (by first | exact A49.out | (have z_ := A49.out; (try rw [← Nbq43.out] at z_); (try rw [← Nbq46.out] at z_); exact z_))).mono ?_
                 rintro e w51 ⟨rfl, hb⟩
                 have HS0_ := (hb.cell (World.block_lt_of_cell? _ _ (hHeld.1))).trans (hHeld.1)
                 have HS1_ := (hb.cell (World.block_lt_of_cell? _ _ (hHeld.2.1))).trans (hHeld.2.1)
                 have HS2_ := (hb.cell (World.block_lt_of_cell? _ _ (hHeld.2.2.1))).trans (hHeld.2.2.1)
                 have HS3_ := (hb.cell (World.block_lt_of_cell? _ _ (hHeld.2.2.2.1))).trans (hHeld.2.2.2.1)
                 have HS4_ := (hb.cell (World.block_lt_of_cell? _ _ (hHeld.2.2.2.2.1))).trans (hHeld.2.2.2.2.1)
                 have HS5_ := (hb.cell (World.block_lt_of_cell? _ _ (hHeld.2.2.2.2.2.1))).trans (hHeld.2.2.2.2.2.1)
                 have HS6_ := (hb.cell (World.block_lt_of_cell? _ _ (hHeld.2.2.2.2.2.2.1))).trans (hHeld.2.2.2.2.2.2.1)
                 have HS7_ := (hb.cell (World.block_lt_of_cell? _ _ (hHeld.2.2.2.2.2.2.2.1))).trans (hHeld.2.2.2.2.2.2.2.1)
                 have HS8_ := (hb.cell (World.block_lt_of_cell? _ _ (hHeld.2.2.2.2.2.2.2.2.1))).trans (hHeld.2.2.2.2.2.2.2.2.1)
                 have HS9_ := (hb.cell (World.block_lt_of_cell? _ _ (hHeld.2.2.2.2.2.2.2.2.2.1))).trans (hHeld.2.2.2.2.2.2.2.2.2.1)
                 have HS10_ := (hb.cell (World.block_lt_of_cell? _ _ (hHeld.2.2.2.2.2.2.2.2.2.2.1))).trans (hHeld.2.2.2.2.2.2.2.2.2.2.1)
                 have HS11_ := (hb.cell (World.block_lt_of_cell? _ _ (hHeld.2.2.2.2.2.2.2.2.2.2.2.1))).trans (hHeld.2.2.2.2.2.2.2.2.2.2.2.1)
                 have HS12_ := (hb.cell (World.block_lt_of_cell? _ _ (hHeld.2.2.2.2.2.2.2.2.2.2.2.2.1))).trans (hHeld.2.2.2.2.2.2.2.2.2.2.2.2.1)
                 have HS13_ := (hb.cell (World.block_lt_of_cell? _ _ (hHeld.2.2.2.2.2.2.2.2.2.2.2.2.2.1))).trans (hHeld.2.2.2.2.2.2.2.2.2.2.2.2.2.1)
                 have HS14_ := (hb.cell (World.block_lt_of_cell? _ _ (hHeld.2.2.2.2.2.2.2.2.2.2.2.2.2.2.1))).trans (hHeld.2.2.2.2.2.2.2.2.2.2.2.2.2.2.1)
                 have HS15_ := (hb.cell (World.block_lt_of_cell? _ _ (hHeld.2.2.2.2.2.2.2.2.2.2.2.2.2.2.2.1))).trans (hHeld.2.2.2.2.2.2.2.2.2.2.2.2.2.2.2.1)
                 have HS16_ := (hb.cell (World.block_lt_of_cell? _ _ (hHeld.2.2.2.2.2.2.2.2.2.2.2.2.2.2.2.2.1))).trans (hHeld.2.2.2.2.2.2.2.2.2.2.2.2.2.2.2.2.1)
                 have HS17_ := (hb.cell (World.block_lt_of_cell? _ _ (hHeld.2.2.2.2.2.2.2.2.2.2.2.2.2.2.2.2.2.1))).trans (hHeld.2.2.2.2.2.2.2.2.2.2.2.2.2.2.2.2.2.1)
                 have HS18_ := (hb.cell (World.block_lt_of_cell? _ _ (hHeld.2.2.2.2.2.2.2.2.2.2.2.2.2.2.2.2.2.2.1))).trans (hHeld.2.2.2.2.2.2.2.2.2.2.2.2.2.2.2.2.2.2.1)
                 have HS19_ := (hb.cell (World.block_lt_of_cell? _ _ (hHeld.2.2.2.2.2.2.2.2.2.2.2.2.2.2.2.2.2.2.2.1))).trans (hHeld.2.2.2.2.2.2.2.2.2.2.2.2.2.2.2.2.2.2.2.1)
                 have HS20_ := (hb.cell (World.block_lt_of_cell? _ _ (hHeld.2.2.2.2.2.2.2.2.2.2.2.2.2.2.2.2.2.2.2.2.1))).trans (hHeld.2.2.2.2.2.2.2.2.2.2.2.2.2.2.2.2.2.2.2.2.1)
                 have HS21_ := (hb.cell (World.block_lt_of_cell? _ _ (hHeld.2.2.2.2.2.2.2.2.2.2.2.2.2.2.2.2.2.2.2.2.2.1))).trans (hHeld.2.2.2.2.2.2.2.2.2.2.2.2.2.2.2.2.2.2.2.2.2.1)
                 have HS22_ := (hb.cell (World.block_lt_of_cell? _ _ (hHeld.2.2.2.2.2.2.2.2.2.2.2.2.2.2.2.2.2.2.2.2.2.2.1))).trans (hHeld.2.2.2.2.2.2.2.2.2.2.2.2.2.2.2.2.2.2.2.2.2.2.1)
                 have HS23_ := (hb.cell (World.block_lt_of_cell? _ _ (hHeld.2.2.2.2.2.2.2.2.2.2.2.2.2.2.2.2.2.2.2.2.2.2.2.1))).trans (hHeld.2.2.2.2.2.2.2.2.2.2.2.2.2.2.2.2.2.2.2.2.2.2.2.1)
                 have HS24_ := (hb.cell (World.block_lt_of_cell? _ _ (hHeld.2.2.2.2.2.2.2.2.2.2.2.2.2.2.2.2.2.2.2.2.2.2.2.2.1))).trans (hHeld.2.2.2.2.2.2.2.2.2.2.2.2.2.2.2.2.2.2.2.2.2.2.2.2.1)
                 have HS25_ := (hb.cell (World.block_lt_of_cell? _ _ (hHeld.2.2.2.2.2.2.2.2.2.2.2.2.2.2.2.2.2.2.2.2.2.2.2.2.2.1))).trans (hHeld.2.2.2.2.2.2.2.2.2.2.2.2.2.2.2.2.2.2.2.2.2.2.2.2.2.1)
                 have HS26_ := (hb.cell (World.block_lt_of_cell? _ _ (hHeld.2.2.2.2.2.2.2.2.2.2.2.2.2.2.2.2.2.2.2.2.2.2.2.2.2.2.1))).trans (hHeld.2.2.2.2.2.2.2.2.2.2.2.2.2.2.2.2.2.2.2.2.2.2.2.2.2.2.1)
                 have HS27_ := (hb.cell (World.block_lt_of_cell? _ _ (hHeld.2.2.2.2.2.2.2.2.2.2.2.2.2.2.2.2.2.2.2.2.2.2.2.2.2.2.2.1))).trans (hHeld.2.2.2.2.2.2.2.2.2.2.2.2.2.2.2.2.2.2.2.2.2.2.2.2.2.2.2.1)
                 have HS28_ := (hb.cell (World.block_lt_of_cell? _ _ (hHeld.2.2.2.2.2.2.2.2.2.2.2.2.2.2.2.2.2.2.2.2.2.2.2.2.2.2.2.2.1))).trans (hHeld.2.2.2.2.2.2.2.2.2.2.2.2.2.2.2.2.2.2.2.2.2.2.2.2.2.2.2.2.1)
                 have HS29_ := (hb.cell (World.block_lt_of_cell? _ _ (hHeld.2.2.2.2.2.2.2.2.2.2.2.2.2.2.2.2.2.2.2.2.2.2.2.2.2.2.2.2.2.1))).trans (hHeld.2.2.2.2.2.2.2.2.2.2.2.2.2.2.2.2.2.2.2.2.2.2.2.2.2.2.2.2.2.1)
                 have HS30_ := (hb.cell (World.block_lt_of_cell? _ _ (hHeld.2.2.2.2.2.2.2.2.2.2.2.2.2.2.2.2.2.2.2.2.2.2.2.2.2.2.2.2.2.2.1))).trans (hHeld.2.2.2.2.2.2.2.2.2.2.2.2.2.2.2.2.2.2.2.2.2.2.2.2.2.2.2.2.2.2.1)
                 have HS31_ := (hb.cell (World.block_lt_of_cell? _ _ (hHeld.2.2.2.2.2.2.2.2.2.2.2.2.2.2.2.2.2.2.2.2.2.2.2.2.2.2.2.2.2.2.2))).trans (hHeld.2.2.2.2.2.2.2.2.2.2.2.2.2.2.2.2.2.2.2.2.2.2.2.2.2.2.2.2.2.2.2)
                 refine ⟨_, rfl, ?_⟩
                 have n0_ := Aside0.mk (Kd.V_below (by (with_reducible repeat (first | apply Kd.V_alloc | apply Kd.V_drewN | apply Kd.V_drew)); exact HO_0.out) hb)
                 have n1_ := Aside0.mk (Kd.R_below (by (with_reducible repeat (first | apply Kd.R_alloc | apply Kd.R_drewN | apply Kd.R_drew)); exact HO_6.out) hb)
                 have n2_ := Aside0.mk (Kd.R_below (by (with_reducible repeat (first | apply Kd.R_alloc | apply Kd.R_drewN | apply Kd.R_drew)); exact HO_401002.out) hb)
                 have n3_ := Aside0.mk (blk_below (g := gb400) (o := .cells #[.int .i64 t393, .int .i64 t394, .slice Ao13 t395.length co13, .bool t398] 27 (0, 0)) (by (with_reducible repeat (first | refine blk_drewN ?_ _ | refine blk_drew ?_ | refine blk_alloc ?_ _)); exact BK400.out) hb)
                 have n4_ := Aside0.mk (blk_below (g := gb403) (o := .cells #[.int .i64 x404000_2, .int .i64 x404001_2, .bool x404002_2, .int .i64 x404003_2, .string x404004_2, .bool x404005_2, .int .i64 x404006_2, .string x404007_2] 38 (0, 0)) (by (with_reducible repeat (first | refine blk_drewN ?_ _ | refine blk_drew ?_ | refine blk_alloc ?_ _)); exact BK403.out) hb)
                 have n5_ := Aside0.mk (below_step (by with_reducible repeat first | exact HB.out | apply below_alloc | apply pw_below_drewN | apply below_drew1 | refine below_set ?_ GE400.out | refine below_set ?_ GE403.out) hb)
                 clear HO_0
                 clear HO_6
                 clear HO_401002
                 clear BK400
                 clear BK403
                 clear HB
                 have HO_0 := n0_
                 have HO_6 := n1_
                 have HO_401002 := n2_
                 have BK400 := n3_
                 have BK403 := n4_
                 have HB := n5_
                 clear n0_ n1_ n2_ n3_ n4_ n5_
                 (try clear hb)
                 (try clear hb2)
                 (try clear hk)
                 (try clear hi)
                 refine hK.out _ _ ⟨HS0_, HS1_, HS2_, HS3_, HS4_, HS5_, HS6_, HS7_, HS8_, HS9_, HS10_, HS11_, HS12_, HS13_, HS14_, HS15_, HS16_, HS17_, HS18_, HS19_, HS20_, HS21_, HS22_, HS23_, HS24_, HS25_, HS26_, HS27_, HS28_, HS29_, HS30_, HS31_⟩ (fun hHeld => ?_)
                 clear hK K
                 refine norm_ (a' := ?_) ?_ ?_
                 rotate_left
                 ·show Act.put _ (some 94) _ = _
                  simp only [Act.put, List.setIfInBounds_toArray, List.set_cons_zero, List.set_cons_succ, i64_w, i32_w]
                  rfl
                 refine pure_ (i := 24) (N := some 95) (v := ?_) (a' := ?_) #[true, true, true, true, true, true, true, true, true, true, true, true, true, true, true, true, true, true, true, true, true, true, true, true, true, false] rfl rfl (any_of HT_.out (by kernel_rfl)) (fun _ _ _ h => h) (Or.inl ⟨by rfl, ?_⟩) ?_ ?_
                 rotate_left
                 ·intro w'
                  go_simp
                  with_reducible rfl
                 rotate_left
                 ·simp only [Act.put, List.setIfInBounds_toArray, List.set_cons_zero, List.set_cons_succ, i64_w, i32_w]
                  rfl
                 refine pure_ (i := 25) (N := some 96) (v := ?_) (a' := ?_) #[true, true, true, true, true, true, true, true, true, true, true, true, true, true, true, true, true, true, true, true, true, true, true, true, true, true] rfl rfl (any_of HT_.out (by kernel_rfl)) (fun _ _ _ h => h) (Or.inl ⟨by rfl, ?_⟩) ?_ ?_
                 rotate_left
                 ·intro w'
                  go_simp
                  with_reducible rfl
                 rotate_left
                 ·simp only [Act.put, List.setIfInBounds_toArray, List.set_cons_zero, List.set_cons_succ, i64_w, i32_w]
                  rfl
                 refine done_ (done_of HT_.out (by kernel_rfl)) ?_
                 try go_wp2
                 go_meet
                 case rel => exact ⟨_, (!t414), (by first | rfl | (simp; done) | (simp [*]; done)), H', ⟨by have := HJ5.out; have := HK2.out; have := HK3.out; first | omega | exact Nat.le_refl _⟩, ⟨by (with_reducible repeat (first | apply Kd.V_alloc | apply Kd.V_drewN | apply Kd.V_drew)); exact HO_0.out⟩, ⟨by (with_reducible repeat (first | apply Kd.R_alloc | apply Kd.R_drewN | apply Kd.R_drew)); exact HO_6.out⟩, ⟨by (with_reducible repeat (first | apply Kd.R_alloc | apply Kd.R_drewN | apply Kd.R_drew)); exact HO_401002.out⟩, ⟨by (with_reducible repeat (first | refine blk_drewN ?_ _ | refine blk_drew ?_ | refine blk_alloc ?_ _)); exact BK400.out⟩, ⟨by (with_reducible repeat (first | refine blk_drewN ?_ _ | refine blk_drew ?_ | refine blk_alloc ?_ _)); exact BK403.out⟩, ⟨by repeat (first | (with_reducible first | exact HB.out | apply below_alloc | apply pw_below_drewN | apply below_drew1 | refine below_set ?_ GE400.out | refine below_set ?_ GE403.out) | exact HB.out)⟩⟩
              ·rw [if_neg c42] at H
               exact absurd H (by simp)
             ·rw [if_neg c41] at H
              exact absurd H (by simp)
            case rest =>
             clear HC38
             try clear c2
             try clear p2
             try clear c4
             try clear p4
             try clear q4
             try clear hx4
             try clear c20
             try clear c41
             try clear p41
             try clear q41
             try clear hx41
             try clear c42
             try clear q43
             try clear c44
             try clear q46
             try clear c47
             try clear hx410_0 hx410_1 hx410_2 hx410_3 hx410_4 hx410_5 hx410_6 hx410_7
             try clear hx411_0 hx411_1 hx411_2 hx411_3 hx411_4 hx411_5 hx411_6 hx411_7
             try clear hx412_0 hx412_1 hx412_2 hx412_3 hx412_4 hx412_5 hx412_6 hx412_7
             try clear hx413_0 hx413_1 hx413_2 hx413_3 hx413_4 hx413_5 hx413_6 hx413_7
             try clear p410
             try clear p411
             try clear p412
             try clear p413
             try clear q410
             try clear q411
             try clear q412
             try clear q413
             obtain ⟨kq, x96_37, rfl, HA, HJ37, HO_0, HO_6, HO_401002, BK400, BK403, HB⟩ := hcut
             cases kq with
             | zero => exact absurd HA.out (by simp [tithebarnlaw17_LevelsKeeps.j3])
             | succ kj37 =>
              have H := HA.out
              clear HA
              simp only [tithebarnlaw17_LevelsKeeps.j3] at H
              by_cases c52 : x96_37 = true
              ·subst c52
               have H1 : (some true) = some r := by rw [if_pos rfl] at H; exact H
               clear H
               have H := H1
               clear H1
               obtain rfl := Option.some.inj H
               go_wp2
               go_ret
               exact ⟨by first | rfl | (simp [errW_none, errW_some] <;> rfl) | (simp [*, errW_none, errW_some] <;> rfl), by repeat (first | (with_reducible first | exact HB.out | apply below_alloc | apply pw_below_drewN | apply below_drew1 | refine below_set ?_ GE400.out | refine below_set ?_ GE403.out) | exact HB.out)⟩
              ·replace c52 := Bool.eq_false_iff.mpr c52
               subst c52
               have H1 : (if x7_2 = true then (if 0 ≤ x8_2 then (if x8_2 < (t390.length : Int) then (tithebarnlaw17_LevelsKeeps.j4 kj37 t390 x6_2 false x8_2 t393 t394 t395 t398 x404000_2 x404001_2 ((rd_T38 t390 x8_2).f2.f0) ((rd_T38 t390 x8_2).f2.f1) ((rd_T38 t390 x8_2).f2.f2) ((rd_T38 t390 x8_2).f3.f0) ((rd_T38 t390 x8_2).f3.f1) ((rd_T38 t390 x8_2).f3.f2)) else (none)) else (none)) else (tithebarnlaw17_LevelsKeeps.j4 kj37 t390 x6_2 x7_2 x8_2 t393 t394 t395 t398 x404000_2 x404001_2 x404002_2 x404003_2 x404004_2 x404005_2 x404006_2 x404007_2)) = some r := by rw [if_neg (show ¬ (false = true) by decide)] at H; exact H
               clear H
               have H := H1
               clear H1
               have HC53 := Aside0.mk H
               clear H
               go_upto_if 97 with (fail)
               go_cut [7] (fun v7 wc => ∃ (kq : Nat) (x7_52 : Bool) (x404002_52 : Bool) (x404003_52 : Int) (x404004_52 : ByteArray) (x404005_52 : Bool) (x404006_52 : Int) (x404007_52 : ByteArray), v7 = .bool x7_52 ∧ Aside0 (tithebarnlaw17_LevelsKeeps.j4 kq t390 x6_2 x7_52 x8_2 t393 t394 t395 t398 x404000_2 x404001_2 x404002_52 x404003_52 x404004_52 x404005_52 x404006_52 x404007_52 = some r) ∧ Aside0 (kq ≤ kj37) ∧ Aside0 (Kd.V k38 38 wc w.heap.size (fun k_ => some k_ ≠ (u6 : Value).ownBlock ∧ some k_ ≠ ((.slice Ao13 t395.length co13) : Value).ownBlock ∧ k_ ≠ gb400 ∧ k_ ≠ gb403) (.slice Ao9 t390.length co9) t390) ∧ Aside0 (Kd.R k38 38 wc w.heap.size (fun k_ => k_ ≠ gb403) u6 x6_2) ∧ Aside0 (Kd.R (Kd.int .i64) 3 wc w.heap.size (fun _ => True) (.slice Ao13 t395.length co13) t395) ∧ Aside0 (wc.heap[gb400]? = some (.cells #[.int .i64 t393, .int .i64 t394, (.slice Ao13 t395.length co13), .bool t398] 27 (0, 0))) ∧ Aside0 (wc.heap[gb403]? = some (.cells #[.int .i64 x404000_2, .int .i64 x404001_2, .bool x404002_52, .int .i64 x404003_52, .string x404004_52, .bool x404005_52, .int .i64 x404006_52, .string x404007_52] 38 (0, 0))) ∧ Aside0 (Below w.heap.size w wc))
               case first =>
                have H := HC53.out
                clear HC53
                by_cases c54 : x7_2 = true
                ·subst c54
                 have H1 : (if 0 ≤ x8_2 then (if x8_2 < (t390.length : Int) then (tithebarnlaw17_LevelsKeeps.j4 kj37 t390 x6_2 false x8_2 t393 t394 t395 t398 x404000_2 x404001_2 ((rd_T38 t390 x8_2).f2.f0) ((rd_T38 t390 x8_2).f2.f1) ((rd_T38 t390 x8_2).f2.f2) ((rd_T38 t390 x8_2).f3.f0) ((rd_T38 t390 x8_2).f3.f1) ((rd_T38 t390 x8_2).f3.f2)) else (none)) else (none)) = some r := by rw [if_pos rfl] at H; exact H
                 clear H
                 have H := H1
                 clear H1
                 by_cases c55 : 0 ≤ x8_2
                 ·rw [if_pos c55] at H
                  have c55b0 : decide (0 ≤ x8_2) = true := decide_eq_true c55
                  clear c55
                  (first | rw [c55b0] | (simp only [i64_w, i32_w]; rw [c55b0]) | skip)
                  by_cases c56 : x8_2 < (t390.length : Int)
                  ·rw [if_pos c56] at H
                   have c56b0 : decide (x8_2 < (t390.length : Int)) = true := decide_eq_true c56
                   clear c56
                   have H' := Aside0.mk H
                   clear H
                   try go_wp2
                   have n0_ := Aside0.mk (Kd.V_drew HO_0.out)
                   have n1_ := Aside0.mk (Kd.R_drew HO_6.out)
                   have n2_ := Aside0.mk (Kd.R_drew HO_401002.out)
                   have n3_ := Aside0.mk (blk_drew BK400.out)
                   have n4_ := Aside0.mk (blk_drew BK403.out)
                   have n5_ := Aside0.mk (below_drew1 HB.out)
                   clear HO_0
                   clear HO_6
                   clear HO_401002
                   clear BK400
                   clear BK403
                   clear HB
                   have HO_0 := n0_
                   have HO_6 := n1_
                   have HO_401002 := n2_
                   have BK400 := n3_
                   have BK403 := n4_
                   have HB := n5_
                   clear n0_ n1_ n2_ n3_ n4_ n5_
                   have p415 : 0 ≤ (x8_2 : Int) := of_decide_eq_true (by with_reducible assumption)
                   have q415 : x8_2 < (t390.length : Int) := of_decide_eq_true (by with_reducible assumption)
                   obtain ⟨ad415, e415, hx415_0, hx415_1, hx415_2, hx415_3, hx415_4, hx415_5, hx415_6, hx415_7⟩ := at_T38 (Kd.V_reads' HO_0.out).2.2 x8_2 p415 q415
                   cases e415
                   replace p415 := eq_true p415
                   replace q415 := eq_true q415
                   have p416 : 0 ≤ (x8_2 : Int) := of_decide_eq_true (by with_reducible assumption)
                   have q416 : x8_2 < (t390.length : Int) := of_decide_eq_true (by with_reducible assumption)
                   obtain ⟨ad416, e416, hx416_0, hx416_1, hx416_2, hx416_3, hx416_4, hx416_5, hx416_6, hx416_7⟩ := at_T38 (Kd.V_reads' HO_0.out).2.2 x8_2 p416 q416
                   obtain rfl : ad415 = ad416 := (by injection e416)
                   replace p416 := eq_true p416
                   replace q416 := eq_true q416
                   refine start_ (n := 14) (S := fun w' => w'.cell? (ad415.add ((x8_2).toNat * 8)) = some (.int .i64 ((rd_T38 t390 x8_2).f0)) ∧ w'.cell? ⟨(ad415.add ((x8_2).toNat * 8)).block, (ad415.add ((x8_2).toNat * 8)).off + 1, none⟩ = some (.int .i64 ((rd_T38 t390 x8_2).f1)) ∧ w'.cell? ⟨(ad415.add ((x8_2).toNat * 8)).block, (ad415.add ((x8_2).toNat * 8)).off + 2, none⟩ = some (.bool ((rd_T38 t390 x8_2).f2.f0)) ∧ w'.cell? ⟨(ad415.add ((x8_2).toNat * 8)).block, (ad415.add ((x8_2).toNat * 8)).off + 3, none⟩ = some (.int .i64 ((rd_T38 t390 x8_2).f2.f1)) ∧ w'.cell? ⟨(ad415.add ((x8_2).toNat * 8)).block, (ad415.add ((x8_2).toNat * 8)).off + 4, none⟩ = some (.string ((rd_T38 t390 x8_2).f2.f2)) ∧ w'.cell? ⟨(ad415.add ((x8_2).toNat * 8)).block, (ad415.add ((x8_2).toNat * 8)).off + 5, none⟩ = some (.bool ((rd_T38 t390 x8_2).f3.f0)) ∧ w'.cell? ⟨(ad415.add ((x8_2).toNat * 8)).block, (ad415.add ((x8_2).toNat * 8)).off + 6, none⟩ = some (.int .i64 ((rd_T38 t390 x8_2).f3.f1)) ∧ w'.cell? ⟨(ad415.add ((x8_2).toNat * 8)).block, (ad415.add ((x8_2).toNat * 8)).off + 7, none⟩ = some (.string ((rd_T38 t390 x8_2).f3.f2)) ∧ w'.cell? (ad415.add ((x8_2).toNat * 8)) = some (.int .i64 ((rd_T38 t390 x8_2).f0)) ∧ w'.cell? ⟨(ad415.add ((x8_2).toNat * 8)).block, (ad415.add ((x8_2).toNat * 8)).off + 1, none⟩ = some (.int .i64 ((rd_T38 t390 x8_2).f1)) ∧ w'.cell? ⟨(ad415.add ((x8_2).toNat * 8)).block, (ad415.add ((x8_2).toNat * 8)).off + 2, none⟩ = some (.bool ((rd_T38 t390 x8_2).f2.f0)) ∧ w'.cell? ⟨(ad415.add ((x8_2).toNat * 8)).block, (ad415.add ((x8_2).toNat * 8)).off + 3, none⟩ = some (.int .i64 ((rd_T38 t390 x8_2).f2.f1)) ∧ w'.cell? ⟨(ad415.add ((x8_2).toNat * 8)).block, (ad415.add ((x8_2).toNat * 8)).off + 4, none⟩ = some (.string ((rd_T38 t390 x8_2).f2.f2)) ∧ w'.cell? ⟨(ad415.add ((x8_2).toNat * 8)).block, (ad415.add ((x8_2).toNat * 8)).off + 5, none⟩ = some (.bool ((rd_T38 t390 x8_2).f3.f0)) ∧ w'.cell? ⟨(ad415.add ((x8_2).toNat * 8)).block, (ad415.add ((x8_2).toNat * 8)).off + 6, none⟩ = some (.int .i64 ((rd_T38 t390 x8_2).f3.f1)) ∧ w'.cell? ⟨(ad415.add ((x8_2).toNat * 8)).block, (ad415.add ((x8_2).toNat * 8)).off + 7, none⟩ = some (.string ((rd_T38 t390 x8_2).f3.f2))) (ds := []) #[false, false, false, false, false, false, false, false, false, false, false, false, false, false] (by kernel_rfl) rfl rfl ⟨hx415_0, hx415_1, hx415_2, hx415_3, hx415_4, hx415_5, hx415_6, hx415_7, hx416_0, hx416_1, hx416_2, hx416_3, hx416_4, hx416_5, hx416_6, hx416_7⟩ (fun hHeld => ?_); refine with_tabW tithebarnlaw17_LevelsKeeps.tab23 tithebarnlaw17_LevelsKeeps.bits23 (fun HT_ HW_ => ?_)
                   generalize wc.drew = w57 at HO_0 HO_6 HO_401002 BK400 BK403 HB hx415_0 hx415_1 hx415_2 hx415_3 hx415_4 hx415_5 hx415_6 hx415_7 hx416_0 hx416_1 hx416_2 hx416_3 hx416_4 hx416_5 hx416_6 hx416_7 hHeld ⊢
                   refine pure_ (i := 0) (N := some 98) (v := ?_) (a' := ?_) #[true, false, false, false, false, false, false, false, false, false, false, false, false, false] rfl rfl (any_of HT_.out (by kernel_rfl)) (fun _ _ _ h => h) (Or.inl ⟨by rfl, ?_⟩) ?_ ?_
                   rotate_left
                   ·intro w'
                    go_simp
                    with_reducible rfl
                   rotate_left
                   ·simp only [Act.put, List.setIfInBounds_toArray, List.set_cons_zero, List.set_cons_succ, i64_w, i32_w]
                    rfl
                   refine pure_ (i := 1) (N := some 99) (v := ?_) (a' := ?_) #[true, true, false, false, false, false, false, false, false, false, false, false, false, false] rfl rfl (any_of HT_.out (by kernel_rfl)) (fun _ _ _ h => h) (Or.inl ⟨by rfl, ?_⟩) ?_ ?_
                   rotate_left
                   ·intro w'
                    go_simp
                    with_reducible rfl
                   rotate_left
                   ·simp only [Act.put, List.setIfInBounds_toArray, List.set_cons_zero, List.set_cons_succ, i64_w, i32_w]
                    rfl
                   refine pure_ (i := 2) (N := some 100) (v := ?_) (a' := ?_) #[true, true, true, false, false, false, false, false, false, false, false, false, false, false] rfl rfl (any_of HT_.out (by kernel_rfl)) (fun _ _ _ h => h) (Or.inl ⟨by rfl, ?_⟩) ?_ ?_
                   rotate_left
                   ·intro w'
                    go_simp
                    with_reducible rfl
                   rotate_left
                   ·simp only [Act.put, List.setIfInBounds_toArray, List.set_cons_zero, List.set_cons_succ, i64_w, i32_w]
                    rfl
                   refine pure_ (i := 3) (N := some 101) (v := ?_) (a' := ?_) #[true, true, true, true, false, false, false, false, false, false, false, false, false, false] rfl rfl (any_of HT_.out (by kernel_rfl)) (fun _ _ _ h => h) (Or.inl ⟨by rfl, ?_⟩) ?_ ?_
                   rotate_left
                   ·intro w'
                    go_simp
                    with_reducible rfl
                   rotate_left
                   ·simp only [Act.put, List.setIfInBounds_toArray, List.set_cons_zero, List.set_cons_succ, i64_w, i32_w]
                    rfl
                   refine pure_ (i := 5) (N := some 103) (v := ?_) (a' := ?_) #[true, true, true, true, false, true, false, false, false, false, false, false, false, false] rfl rfl (any_of HT_.out (by kernel_rfl)) (fun _ _ _ h => h) (Or.inl ⟨by rfl, ?_⟩) ?_ ?_
                   rotate_left
                   ·intro w'
                    go_simp
                    with_reducible rfl
                   rotate_left
                   ·simp only [Act.put, List.setIfInBounds_toArray, List.set_cons_zero, List.set_cons_succ, i64_w, i32_w]
                    rfl
                   refine pure_ (i := 6) (N := some 104) (v := ?_) (a' := ?_) #[true, true, true, true, false, true, true, false, false, false, false, false, false, false] rfl rfl (any_of HT_.out (by kernel_rfl)) (fun _ _ _ h => h) (Or.inl ⟨by rfl, ?_⟩) ?_ ?_
                   rotate_left
                   ·intro w'
                    go_simp
                    with_reducible rfl
                   rotate_left
                   ·simp only [Act.put, List.setIfInBounds_toArray, List.set_cons_zero, List.set_cons_succ, i64_w, i32_w]
                    rfl
                   refine pure_ (i := 7) (N := some 105) (v := ?_) (a' := ?_) #[true, true, true, true, false, true, true, true, false, false, false, false, false, false] rfl rfl (any_of HT_.out (by kernel_rfl)) (fun _ _ _ h => h) (Or.inl ⟨by rfl, ?_⟩) ?_ ?_
                   rotate_left
                   ·intro w'
                    go_simp
                    with_reducible rfl
                   rotate_left
                   ·simp only [Act.put, List.setIfInBounds_toArray, List.set_cons_zero, List.set_cons_succ, i64_w, i32_w]
                    rfl
                   refine pure_ (i := 8) (N := some 106) (v := ?_) (a' := ?_) #[true, true, true, true, false, true, true, true, true, false, false, false, false, false] rfl rfl (any_of HT_.out (by kernel_rfl)) (fun _ _ _ h => h) (Or.inl ⟨by rfl, ?_⟩) ?_ ?_
                   rotate_left
                   ·intro w'
                    go_simp
                    with_reducible rfl
                   rotate_left
                   ·simp only [Act.put, List.setIfInBounds_toArray, List.set_cons_zero, List.set_cons_succ, i64_w, i32_w]
                    rfl
                   refine take_ (i := 4) (N := some 102) (v := ?_) (a' := ?_) #[true, true, true, true, true, true, true, true, true, false, false, false, false, false] rfl rfl (take_ofW HT_.out HW_.out (by kernel_rfl)) (fun _ _ _ h => h) (Or.inl ⟨by rfl, ?_⟩) hHeld ?_ ?_
                   rotate_left
                   ·rintro w' ⟨s0, s1, s2, s3, s4, s5, s6, s7, s8, s9, s10, s11, s12, s13, s14, s15⟩
                    go_simp
                    with_reducible rfl
                   rotate_left
                   ·simp only [Act.put, List.setIfInBounds_toArray, List.set_cons_zero, List.set_cons_succ, i64_w, i32_w]
                    rfl
                   refine pure_ (i := 10) (N := some 108) (v := ?_) (a' := ?_) #[true, true, true, true, true, true, true, true, true, false, true, false, false, false] rfl rfl (any_of HT_.out (by kernel_rfl)) (fun _ _ _ h => h) (Or.inl ⟨by rfl, ?_⟩) ?_ ?_
                   rotate_left
                   ·intro w'
                    go_simp
                    with_reducible rfl
                   rotate_left
                   ·simp only [Act.put, List.setIfInBounds_toArray, List.set_cons_zero, List.set_cons_succ, i64_w, i32_w]
                    rfl
                   refine take_ (i := 9) (N := some 107) (v := ?_) (a' := ?_) #[true, true, true, true, true, true, true, true, true, true, true, false, false, false] rfl rfl (take_ofW HT_.out HW_.out (by kernel_rfl)) (fun _ _ _ h => h) (Or.inl ⟨by rfl, ?_⟩) hHeld ?_ ?_
                   rotate_left
                   ·rintro w' ⟨s0, s1, s2, s3, s4, s5, s6, s7, s8, s9, s10, s11, s12, s13, s14, s15⟩
                    go_simp
                    with_reducible rfl
                   rotate_left
                   ·simp only [Act.put, List.setIfInBounds_toArray, List.set_cons_zero, List.set_cons_succ, i64_w, i32_w]
                    rfl
                   refine one_ (i := 11) (N := none) #[true, true, true, true, true, true, true, true, true, true, true, true, false, false] rfl rfl (one_of HT_.out (by kernel_rfl)) (by decide) (fun K hK => ?_)
                   have hs58 : w57.cell? ⟨gb403, 2, none⟩ = some (.bool x404002_2) := (blk_cell BK403.out 2).trans rfl
                   have hfs58 := blk_frozen BK403.out 2
                   have hns58_0 := NB400_403.out
                   have hms58_0 := NB403_400.out
                   have hs59 : w57.cell? ⟨gb403, 3, none⟩ = some (.int .i64 x404003_2) := (blk_cell BK403.out 3).trans rfl
                   have hfs59 := blk_frozen BK403.out 3
                   have hns59_0 := NB400_403.out
                   have hms59_0 := NB403_400.out
                   have hs60 : w57.cell? ⟨gb403, 4, none⟩ = some (.string x404004_2) := (blk_cell BK403.out 4).trans rfl
                   have hfs60 := blk_frozen BK403.out 4
                   have hns60_0 := NB400_403.out
                   have hms60_0 := NB403_400.out
                   refine skip_ (w1 := ?_) (by rfl) rfl ?_ ?_
                   rotate_left
                   ·go_simp
                    rfl
                   have va1_ : ad415.block ≠ gb403 := Kd.own_blk (Kd.V_away HO_0.out (fun _ hk => hk.2.2.2) (by have h1 := of_eq_true p415; have h2 := of_eq_true q415; omega))
                   refine hK.out _ _ ⟨((cell_far (p := ⟨gb403, _, none⟩) (by first | exact va1_ | (rw [add_block]; exact va1_) | (show (Addr.add _ _).block ≠ _; rw [add_block]; exact va1_) | (dsimp only; exact va1_)) _).trans (((cell_far (p := ⟨gb403, _, none⟩) (by first | exact va1_ | (rw [add_block]; exact va1_) | (show (Addr.add _ _).block ≠ _; rw [add_block]; exact va1_) | (dsimp only; exact va1_)) _).trans (((cell_far (p := ⟨gb403, _, none⟩) (by first | exact va1_ | (rw [add_block]; exact va1_) | (show (Addr.add _ _).block ≠ _; rw [add_block]; exact va1_) | (dsimp only; exact va1_)) _).trans (hHeld.1)))))), ((cell_far (p := ⟨gb403, _, none⟩) (by first | exact va1_ | (rw [add_block]; exact va1_) | (show (Addr.add _ _).block ≠ _; rw [add_block]; exact va1_) | (dsimp only; exact va1_)) _).trans (((cell_far (p := ⟨gb403, _, none⟩) (by first | exact va1_ | (rw [add_block]; exact va1_) | (show (Addr.add _ _).block ≠ _; rw [add_block]; exact va1_) | (dsimp only; exact va1_)) _).trans (((cell_far (p := ⟨gb403, _, none⟩) (by first | exact va1_ | (rw [add_block]; exact va1_) | (show (Addr.add _ _).block ≠ _; rw [add_block]; exact va1_) | (dsimp only; exact va1_)) _).trans (hHeld.2.1)))))), ((cell_far (p := ⟨gb403, _, none⟩) (by first | exact va1_ | (rw [add_block]; exact va1_) | (show (Addr.add _ _).block ≠ _; rw [add_block]; exact va1_) | (dsimp only; exact va1_)) _).trans (((cell_far (p := ⟨gb403, _, none⟩) (by first | exact va1_ | (rw [add_block]; exact va1_) | (show (Addr.add _ _).block ≠ _; rw [add_block]; exact va1_) | (dsimp only; exact va1_)) _).trans (((cell_far (p := ⟨gb403, _, none⟩) (by first | exact va1_ | (rw [add_block]; exact va1_) | (show (Addr.add _ _).block ≠ _; rw [add_block]; exact va1_) | (dsimp only; exact va1_)) _).trans (hHeld.2.2.1)))))), ((cell_far (p := ⟨gb403, _, none⟩) (by first | exact va1_ | (rw [add_block]; exact va1_) | (show (Addr.add _ _).block ≠ _; rw [add_block]; exact va1_) | (dsimp only; exact va1_)) _).trans (((cell_far (p := ⟨gb403, _, none⟩) (by first | exact va1_ | (rw [add_block]; exact va1_) | (show (Addr.add _ _).block ≠ _; rw [add_block]; exact va1_) | (dsimp only; exact va1_)) _).trans (((cell_far (p := ⟨gb403, _, none⟩) (by first | exact va1_ | (rw [add_block]; exact va1_) | (show (Addr.add _ _).block ≠ _; rw [add_block]; exact va1_) | (dsimp only; exact va1_)) _).trans (hHeld.2.2.2.1)))))), ((cell_far (p := ⟨gb403, _, none⟩) (by first | exact va1_ | (rw [add_block]; exact va1_) | (show (Addr.add _ _).block ≠ _; rw [add_block]; exact va1_) | (dsimp only; exact va1_)) _).trans (((cell_far (p := ⟨gb403, _, none⟩) (by first | exact va1_ | (rw [add_block]; exact va1_) | (show (Addr.add _ _).block ≠ _; rw [add_block]; exact va1_) | (dsimp only; exact va1_)) _).trans (((cell_far (p := ⟨gb403, _, none⟩) (by first | exact va1_ | (rw [add_block]; exact va1_) | (show (Addr.add _ _).block ≠ _; rw [add_block]; exact va1_) | (dsimp only; exact va1_)) _).trans (hHeld.2.2.2.2.1)))))), ((cell_far (p := ⟨gb403, _, none⟩) (by first | exact va1_ | (rw [add_block]; exact va1_) | (show (Addr.add _ _).block ≠ _; rw [add_block]; exact va1_) | (dsimp only; exact va1_)) _).trans (((cell_far (p := ⟨gb403, _, none⟩) (by first | exact va1_ | (rw [add_block]; exact va1_) | (show (Addr.add _ _).block ≠ _; rw [add_block]; exact va1_) | (dsimp only; exact va1_)) _).trans (((cell_far (p := ⟨gb403, _, none⟩) (by first | exact va1_ | (rw [add_block]; exact va1_) | (show (Addr.add _ _).block ≠ _; rw [add_block]; exact va1_) | (dsimp only; exact va1_)) _).trans (hHeld.2.2.2.2.2.1)))))), ((cell_far (p := ⟨gb403, _, none⟩) (by first | exact va1_ | (rw [add_block]; exact va1_) | (show (Addr.add _ _).block ≠ _; rw [add_block]; exact va1_) | (dsimp only; exact va1_)) _).trans (((cell_far (p := ⟨gb403, _, none⟩) (by first | exact va1_ | (rw [add_block]; exact va1_) | (show (Addr.add _ _).block ≠ _; rw [add_block]; exact va1_) | (dsimp only; exact va1_)) _).trans (((cell_far (p := ⟨gb403, _, none⟩) (by first | exact va1_ | (rw [add_block]; exact va1_) | (show (Addr.add _ _).block ≠ _; rw [add_block]; exact va1_) | (dsimp only; exact va1_)) _).trans (hHeld.2.2.2.2.2.2.1)))))), ((cell_far (p := ⟨gb403, _, none⟩) (by first | exact va1_ | (rw [add_block]; exact va1_) | (show (Addr.add _ _).block ≠ _; rw [add_block]; exact va1_) | (dsimp only; exact va1_)) _).trans (((cell_far (p := ⟨gb403, _, none⟩) (by first | exact va1_ | (rw [add_block]; exact va1_) | (show (Addr.add _ _).block ≠ _; rw [add_block]; exact va1_) | (dsimp only; exact va1_)) _).trans (((cell_far (p := ⟨gb403, _, none⟩) (by first | exact va1_ | (rw [add_block]; exact va1_) | (show (Addr.add _ _).block ≠ _; rw [add_block]; exact va1_) | (dsimp only; exact va1_)) _).trans (hHeld.2.2.2.2.2.2.2.1)))))), ((cell_far (p := ⟨gb403, _, none⟩) (by first | exact va1_ | (rw [add_block]; exact va1_) | (show (Addr.add _ _).block ≠ _; rw [add_block]; exact va1_) | (dsimp only; exact va1_)) _).trans (((cell_far (p := ⟨gb403, _, none⟩) (by first | exact va1_ | (rw [add_block]; exact va1_) | (show (Addr.add _ _).block ≠ _; rw [add_block]; exact va1_) | (dsimp only; exact va1_)) _).trans (((cell_far (p := ⟨gb403, _, none⟩) (by first | exact va1_ | (rw [add_block]; exact va1_) | (show (Addr.add _ _).block ≠ _; rw [add_block]; exact va1_) | (dsimp only; exact va1_)) _).trans (hHeld.2.2.2.2.2.2.2.2.1)))))), ((cell_far (p := ⟨gb403, _, none⟩) (by first | exact va1_ | (rw [add_block]; exact va1_) | (show (Addr.add _ _).block ≠ _; rw [add_block]; exact va1_) | (dsimp only; exact va1_)) _).trans (((cell_far (p := ⟨gb403, _, none⟩) (by first | exact va1_ | (rw [add_block]; exact va1_) | (show (Addr.add _ _).block ≠ _; rw [add_block]; exact va1_) | (dsimp only; exact va1_)) _).trans (((cell_far (p := ⟨gb403, _, none⟩) (by first | exact va1_ | (rw [add_block]; exact va1_) | (show (Addr.add _ _).block ≠ _; rw [add_block]; exact va1_) | (dsimp only; exact va1_)) _).trans (hHeld.2.2.2.2.2.2.2.2.2.1)))))), ((cell_far (p := ⟨gb403, _, none⟩) (by first | exact va1_ | (rw [add_block]; exact va1_) | (show (Addr.add _ _).block ≠ _; rw [add_block]; exact va1_) | (dsimp only; exact va1_)) _).trans (((cell_far (p := ⟨gb403, _, none⟩) (by first | exact va1_ | (rw [add_block]; exact va1_) | (show (Addr.add _ _).block ≠ _; rw [add_block]; exact va1_) | (dsimp only; exact va1_)) _).trans (((cell_far (p := ⟨gb403, _, none⟩) (by first | exact va1_ | (rw [add_block]; exact va1_) | (show (Addr.add _ _).block ≠ _; rw [add_block]; exact va1_) | (dsimp only; exact va1_)) _).trans (hHeld.2.2.2.2.2.2.2.2.2.2.1)))))), ((cell_far (p := ⟨gb403, _, none⟩) (by first | exact va1_ | (rw [add_block]; exact va1_) | (show (Addr.add _ _).block ≠ _; rw [add_block]; exact va1_) | (dsimp only; exact va1_)) _).trans (((cell_far (p := ⟨gb403, _, none⟩) (by first | exact va1_ | (rw [add_block]; exact va1_) | (show (Addr.add _ _).block ≠ _; rw [add_block]; exact va1_) | (dsimp only; exact va1_)) _).trans (((cell_far (p := ⟨gb403, _, none⟩) (by first | exact va1_ | (rw [add_block]; exact va1_) | (show (Addr.add _ _).block ≠ _; rw [add_block]; exact va1_) | (dsimp only; exact va1_)) _).trans (hHeld.2.2.2.2.2.2.2.2.2.2.2.1)))))), ((cell_far (p := ⟨gb403, _, none⟩) (by first | exact va1_ | (rw [add_block]; exact va1_) | (show (Addr.add _ _).block ≠ _; rw [add_block]; exact va1_) | (dsimp only; exact va1_)) _).trans (((cell_far (p := ⟨gb403, _, none⟩) (by first | exact va1_ | (rw [add_block]; exact va1_) | (show (Addr.add _ _).block ≠ _; rw [add_block]; exact va1_) | (dsimp only; exact va1_)) _).trans (((cell_far (p := ⟨gb403, _, none⟩) (by first | exact va1_ | (rw [add_block]; exact va1_) | (show (Addr.add _ _).block ≠ _; rw [add_block]; exact va1_) | (dsimp only; exact va1_)) _).trans (hHeld.2.2.2.2.2.2.2.2.2.2.2.2.1)))))), ((cell_far (p := ⟨gb403, _, none⟩) (by first | exact va1_ | (rw [add_block]; exact va1_) | (show (Addr.add _ _).block ≠ _; rw [add_block]; exact va1_) | (dsimp only; exact va1_)) _).trans (((cell_far (p := ⟨gb403, _, none⟩) (by first | exact va1_ | (rw [add_block]; exact va1_) | (show (Addr.add _ _).block ≠ _; rw [add_block]; exact va1_) | (dsimp only; exact va1_)) _).trans (((cell_far (p := ⟨gb403, _, none⟩) (by first | exact va1_ | (rw [add_block]; exact va1_) | (show (Addr.add _ _).block ≠ _; rw [add_block]; exact va1_) | (dsimp only; exact va1_)) _).trans (hHeld.2.2.2.2.2.2.2.2.2.2.2.2.2.1)))))), ((cell_far (p := ⟨gb403, _, none⟩) (by first | exact va1_ | (rw [add_block]; exact va1_) | (show (Addr.add _ _).block ≠ _; rw [add_block]; exact va1_) | (dsimp only; exact va1_)) _).trans (((cell_far (p := ⟨gb403, _, none⟩) (by first | exact va1_ | (rw [add_block]; exact va1_) | (show (Addr.add _ _).block ≠ _; rw [add_block]; exact va1_) | (dsimp only; exact va1_)) _).trans (((cell_far (p := ⟨gb403, _, none⟩) (by first | exact va1_ | (rw [add_block]; exact va1_) | (show (Addr.add _ _).block ≠ _; rw [add_block]; exact va1_) | (dsimp only; exact va1_)) _).trans (hHeld.2.2.2.2.2.2.2.2.2.2.2.2.2.2.1)))))), ((cell_far (p := ⟨gb403, _, none⟩) (by first | exact va1_ | (rw [add_block]; exact va1_) | (show (Addr.add _ _).block ≠ _; rw [add_block]; exact va1_) | (dsimp only; exact va1_)) _).trans (((cell_far (p := ⟨gb403, _, none⟩) (by first | exact va1_ | (rw [add_block]; exact va1_) | (show (Addr.add _ _).block ≠ _; rw [add_block]; exact va1_) | (dsimp only; exact va1_)) _).trans (((cell_far (p := ⟨gb403, _, none⟩) (by first | exact va1_ | (rw [add_block]; exact va1_) | (show (Addr.add _ _).block ≠ _; rw [add_block]; exact va1_) | (dsimp only; exact va1_)) _).trans (hHeld.2.2.2.2.2.2.2.2.2.2.2.2.2.2.2))))))⟩ (fun hHeld => ?_)
                   clear hK K
                   refine pure_ (i := 12) (N := some 109) (v := ?_) (a' := ?_) #[true, true, true, true, true, true, true, true, true, true, true, true, true, false] rfl rfl (any_of HT_.out (by kernel_rfl)) (fun _ _ _ h => h) (Or.inl ⟨by rfl, ?_⟩) ?_ ?_
                   rotate_left
                   ·intro w'
                    go_simp
                    with_reducible rfl
                   rotate_left
                   ·simp only [Act.put, List.setIfInBounds_toArray, List.set_cons_zero, List.set_cons_succ, i64_w, i32_w]
                    rfl
                   refine one_ (i := 13) (N := none) #[true, true, true, true, true, true, true, true, true, true, true, true, true, true] rfl rfl (one_of HT_.out (by kernel_rfl)) (by decide) (fun K hK => ?_)
                   have hs61 : w57.cell? ⟨gb403, 5, none⟩ = some (.bool x404005_2) := (blk_cell BK403.out 5).trans rfl
                   have hfs61 := blk_frozen BK403.out 5
                   have hns61_0 := NB400_403.out
                   have hms61_0 := NB403_400.out
                   have hs62 : w57.cell? ⟨gb403, 6, none⟩ = some (.int .i64 x404006_2) := (blk_cell BK403.out 6).trans rfl
                   have hfs62 := blk_frozen BK403.out 6
                   have hns62_0 := NB400_403.out
                   have hms62_0 := NB403_400.out
                   have hs63 : w57.cell? ⟨gb403, 7, none⟩ = some (.string x404007_2) := (blk_cell BK403.out 7).trans rfl
                   have hfs63 := blk_frozen BK403.out 7
                   have hns63_0 := NB400_403.out
                   have hms63_0 := NB403_400.out
                   refine skip_ (w1 := ?_) (by rfl) rfl ?_ ?_
                   rotate_left
                   ·go_simp
                    rfl
                   have va2_ : ad415.block ≠ gb403 := Kd.own_blk (Kd.V_away HO_0.out (fun _ hk => hk.2.2.2) (by have h1 := of_eq_true p415; have h2 := of_eq_true q415; omega))
                   refine hK.out _ _ ⟨((cell_far (p := ⟨gb403, _, none⟩) (by first | exact va2_ | (rw [add_block]; exact va2_) | (show (Addr.add _ _).block ≠ _; rw [add_block]; exact va2_) | (dsimp only; exact va2_)) _).trans (((cell_far (p := ⟨gb403, _, none⟩) (by first | exact va2_ | (rw [add_block]; exact va2_) | (show (Addr.add _ _).block ≠ _; rw [add_block]; exact va2_) | (dsimp only; exact va2_)) _).trans (((cell_far (p := ⟨gb403, _, none⟩) (by first | exact va2_ | (rw [add_block]; exact va2_) | (show (Addr.add _ _).block ≠ _; rw [add_block]; exact va2_) | (dsimp only; exact va2_)) _).trans (hHeld.1)))))), ((cell_far (p := ⟨gb403, _, none⟩) (by first | exact va2_ | (rw [add_block]; exact va2_) | (show (Addr.add _ _).block ≠ _; rw [add_block]; exact va2_) | (dsimp only; exact va2_)) _).trans (((cell_far (p := ⟨gb403, _, none⟩) (by first | exact va2_ | (rw [add_block]; exact va2_) | (show (Addr.add _ _).block ≠ _; rw [add_block]; exact va2_) | (dsimp only; exact va2_)) _).trans (((cell_far (p := ⟨gb403, _, none⟩) (by first | exact va2_ | (rw [add_block]; exact va2_) | (show (Addr.add _ _).block ≠ _; rw [add_block]; exact va2_) | (dsimp only; exact va2_)) _).trans (hHeld.2.1)))))), ((cell_far (p := ⟨gb403, _, none⟩) (by first | exact va2_ | (rw [add_block]; exact va2_) | (show (Addr.add _ _).block ≠ _; rw [add_block]; exact va2_) | (dsimp only; exact va2_)) _).trans (((cell_far (p := ⟨gb403, _, none⟩) (by first | exact va2_ | (rw [add_block]; exact va2_) | (show (Addr.add _ _).block ≠ _; rw [add_block]; exact va2_) | (dsimp only; exact va2_)) _).trans (((cell_far (p := ⟨gb403, _, none⟩) (by first | exact va2_ | (rw [add_block]; exact va2_) | (show (Addr.add _ _).block ≠ _; rw [add_block]; exact va2_) | (dsimp only; exact va2_)) _).trans (hHeld.2.2.1)))))), ((cell_far (p := ⟨gb403, _, none⟩) (by first | exact va2_ | (rw [add_block]; exact va2_) | (show (Addr.add _ _).block ≠ _; rw [add_block]; exact va2_) | (dsimp only; exact va2_)) _).trans (((cell_far (p := ⟨gb403, _, none⟩) (by first | exact va2_ | (rw [add_block]; exact va2_) | (show (Addr.add _ _).block ≠ _; rw [add_block]; exact va2_) | (dsimp only; exact va2_)) _).trans (((cell_far (p := ⟨gb403, _, none⟩) (by first | exact va2_ | (rw [add_block]; exact va2_) | (show (Addr.add _ _).block ≠ _; rw [add_block]; exact va2_) | (dsimp only; exact va2_)) _).trans (hHeld.2.2.2.1)))))), ((cell_far (p := ⟨gb403, _, none⟩) (by first | exact va2_ | (rw [add_block]; exact va2_) | (show (Addr.add _ _).block ≠ _; rw [add_block]; exact va2_) | (dsimp only; exact va2_)) _).trans (((cell_far (p := ⟨gb403, _, none⟩) (by first | exact va2_ | (rw [add_block]; exact va2_) | (show (Addr.add _ _).block ≠ _; rw [add_block]; exact va2_) | (dsimp only; exact va2_)) _).trans (((cell_far (p := ⟨gb403, _, none⟩) (by first | exact va2_ | (rw [add_block]; exact va2_) | (show (Addr.add _ _).block ≠ _; rw [add_block]; exact va2_) | (dsimp only; exact va2_)) _).trans (hHeld.2.2.2.2.1)))))), ((cell_far (p := ⟨gb403, _, none⟩) (by first | exact va2_ | (rw [add_block]; exact va2_) | (show (Addr.add _ _).block ≠ _; rw [add_block]; exact va2_) | (dsimp only; exact va2_)) _).trans (((cell_far (p := ⟨gb403, _, none⟩) (by first | exact va2_ | (rw [add_block]; exact va2_) | (show (Addr.add _ _).block ≠ _; rw [add_block]; exact va2_) | (dsimp only; exact va2_)) _).trans (((cell_far (p := ⟨gb403, _, none⟩) (by first | exact va2_ | (rw [add_block]; exact va2_) | (show (Addr.add _ _).block ≠ _; rw [add_block]; exact va2_) | (dsimp only; exact va2_)) _).trans (hHeld.2.2.2.2.2.1)))))), ((cell_far (p := ⟨gb403, _, none⟩) (by first | exact va2_ | (rw [add_block]; exact va2_) | (show (Addr.add _ _).block ≠ _; rw [add_block]; exact va2_) | (dsimp only; exact va2_)) _).trans (((cell_far (p := ⟨gb403, _, none⟩) (by first | exact va2_ | (rw [add_block]; exact va2_) | (show (Addr.add _ _).block ≠ _; rw [add_block]; exact va2_) | (dsimp only; exact va2_)) _).trans (((cell_far (p := ⟨gb403, _, none⟩) (by first | exact va2_ | (rw [add_block]; exact va2_) | (show (Addr.add _ _).block ≠ _; rw [add_block]; exact va2_) | (dsimp only; exact va2_)) _).trans (hHeld.2.2.2.2.2.2.1)))))), ((cell_far (p := ⟨gb403, _, none⟩) (by first | exact va2_ | (rw [add_block]; exact va2_) | (show (Addr.add _ _).block ≠ _; rw [add_block]; exact va2_) | (dsimp only; exact va2_)) _).trans (((cell_far (p := ⟨gb403, _, none⟩) (by first | exact va2_ | (rw [add_block]; exact va2_) | (show (Addr.add _ _).block ≠ _; rw [add_block]; exact va2_) | (dsimp only; exact va2_)) _).trans (((cell_far (p := ⟨gb403, _, none⟩) (by first | exact va2_ | (rw [add_block]; exact va2_) | (show (Addr.add _ _).block ≠ _; rw [add_block]; exact va2_) | (dsimp only; exact va2_)) _).trans (hHeld.2.2.2.2.2.2.2.1)))))), ((cell_far (p := ⟨gb403, _, none⟩) (by first | exact va2_ | (rw [add_block]; exact va2_) | (show (Addr.add _ _).block ≠ _; rw [add_block]; exact va2_) | (dsimp only; exact va2_)) _).trans (((cell_far (p := ⟨gb403, _, none⟩) (by first | exact va2_ | (rw [add_block]; exact va2_) | (show (Addr.add _ _).block ≠ _; rw [add_block]; exact va2_) | (dsimp only; exact va2_)) _).trans (((cell_far (p := ⟨gb403, _, none⟩) (by first | exact va2_ | (rw [add_block]; exact va2_) | (show (Addr.add _ _).block ≠ _; rw [add_block]; exact va2_) | (dsimp only; exact va2_)) _).trans (hHeld.2.2.2.2.2.2.2.2.1)))))), ((cell_far (p := ⟨gb403, _, none⟩) (by first | exact va2_ | (rw [add_block]; exact va2_) | (show (Addr.add _ _).block ≠ _; rw [add_block]; exact va2_) | (dsimp only; exact va2_)) _).trans (((cell_far (p := ⟨gb403, _, none⟩) (by first | exact va2_ | (rw [add_block]; exact va2_) | (show (Addr.add _ _).block ≠ _; rw [add_block]; exact va2_) | (dsimp only; exact va2_)) _).trans (((cell_far (p := ⟨gb403, _, none⟩) (by first | exact va2_ | (rw [add_block]; exact va2_) | (show (Addr.add _ _).block ≠ _; rw [add_block]; exact va2_) | (dsimp only; exact va2_)) _).trans (hHeld.2.2.2.2.2.2.2.2.2.1)))))), ((cell_far (p := ⟨gb403, _, none⟩) (by first | exact va2_ | (rw [add_block]; exact va2_) | (show (Addr.add _ _).block ≠ _; rw [add_block]; exact va2_) | (dsimp only; exact va2_)) _).trans (((cell_far (p := ⟨gb403, _, none⟩) (by first | exact va2_ | (rw [add_block]; exact va2_) | (show (Addr.add _ _).block ≠ _; rw [add_block]; exact va2_) | (dsimp only; exact va2_)) _).trans (((cell_far (p := ⟨gb403, _, none⟩) (by first | exact va2_ | (rw [add_block]; exact va2_) | (show (Addr.add _ _).block ≠ _; rw [add_block]; exact va2_) | (dsimp only; exact va2_)) _).trans (hHeld.2.2.2.2.2.2.2.2.2.2.1)))))), ((cell_far (p := ⟨gb403, _, none⟩) (by first | exact va2_ | (rw [add_block]; exact va2_) | (show (Addr.add _ _).block ≠ _; rw [add_block]; exact va2_) | (dsimp only; exact va2_)) _).trans (((cell_far (p := ⟨gb403, _, none⟩) (by first | exact va2_ | (rw [add_block]; exact va2_) | (show (Addr.add _ _).block ≠ _; rw [add_block]; exact va2_) | (dsimp only; exact va2_)) _).trans (((cell_far (p := ⟨gb403, _, none⟩) (by first | exact va2_ | (rw [add_block]; exact va2_) | (show (Addr.add _ _).block ≠ _; rw [add_block]; exact va2_) | (dsimp only; exact va2_)) _).trans (hHeld.2.2.2.2.2.2.2.2.2.2.2.1)))))), ((cell_far (p := ⟨gb403, _, none⟩) (by first | exact va2_ | (rw [add_block]; exact va2_) | (show (Addr.add _ _).block ≠ _; rw [add_block]; exact va2_) | (dsimp only; exact va2_)) _).trans (((cell_far (p := ⟨gb403, _, none⟩) (by first | exact va2_ | (rw [add_block]; exact va2_) | (show (Addr.add _ _).block ≠ _; rw [add_block]; exact va2_) | (dsimp only; exact va2_)) _).trans (((cell_far (p := ⟨gb403, _, none⟩) (by first | exact va2_ | (rw [add_block]; exact va2_) | (show (Addr.add _ _).block ≠ _; rw [add_block]; exact va2_) | (dsimp only; exact va2_)) _).trans (hHeld.2.2.2.2.2.2.2.2.2.2.2.2.1)))))), ((cell_far (p := ⟨gb403, _, none⟩) (by first | exact va2_ | (rw [add_block]; exact va2_) | (show (Addr.add _ _).block ≠ _; rw [add_block]; exact va2_) | (dsimp only; exact va2_)) _).trans (((cell_far (p := ⟨gb403, _, none⟩) (by first | exact va2_ | (rw [add_block]; exact va2_) | (show (Addr.add _ _).block ≠ _; rw [add_block]; exact va2_) | (dsimp only; exact va2_)) _).trans (((cell_far (p := ⟨gb403, _, none⟩) (by first | exact va2_ | (rw [add_block]; exact va2_) | (show (Addr.add _ _).block ≠ _; rw [add_block]; exact va2_) | (dsimp only; exact va2_)) _).trans (hHeld.2.2.2.2.2.2.2.2.2.2.2.2.2.1)))))), ((cell_far (p := ⟨gb403, _, none⟩) (by first | exact va2_ | (rw [add_block]; exact va2_) | (show (Addr.add _ _).block ≠ _; rw [add_block]; exact va2_) | (dsimp only; exact va2_)) _).trans (((cell_far (p := ⟨gb403, _, none⟩) (by first | exact va2_ | (rw [add_block]; exact va2_) | (show (Addr.add _ _).block ≠ _; rw [add_block]; exact va2_) | (dsimp only; exact va2_)) _).trans (((cell_far (p := ⟨gb403, _, none⟩) (by first | exact va2_ | (rw [add_block]; exact va2_) | (show (Addr.add _ _).block ≠ _; rw [add_block]; exact va2_) | (dsimp only; exact va2_)) _).trans (hHeld.2.2.2.2.2.2.2.2.2.2.2.2.2.2.1)))))), ((cell_far (p := ⟨gb403, _, none⟩) (by first | exact va2_ | (rw [add_block]; exact va2_) | (show (Addr.add _ _).block ≠ _; rw [add_block]; exact va2_) | (dsimp only; exact va2_)) _).trans (((cell_far (p := ⟨gb403, _, none⟩) (by first | exact va2_ | (rw [add_block]; exact va2_) | (show (Addr.add _ _).block ≠ _; rw [add_block]; exact va2_) | (dsimp only; exact va2_)) _).trans (((cell_far (p := ⟨gb403, _, none⟩) (by first | exact va2_ | (rw [add_block]; exact va2_) | (show (Addr.add _ _).block ≠ _; rw [add_block]; exact va2_) | (dsimp only; exact va2_)) _).trans (hHeld.2.2.2.2.2.2.2.2.2.2.2.2.2.2.2))))))⟩ (fun hHeld => ?_)
                   clear hK K
                   refine done_ (done_of HT_.out (by kernel_rfl)) ?_
                   try go_wp2
                   go_meet
                   case rel => exact ⟨_, (false), ((rd_T38 t390 x8_2).f2.f0), ((rd_T38 t390 x8_2).f2.f1), ((rd_T38 t390 x8_2).f2.f2), ((rd_T38 t390 x8_2).f3.f0), ((rd_T38 t390 x8_2).f3.f1), ((rd_T38 t390 x8_2).f3.f2), (by first | rfl | (simp; done) | (simp [*]; done)), H', ⟨by have := HJ5.out; have := HK2.out; have := HK3.out; have := HJ37.out; first | omega | exact Nat.le_refl _⟩, ⟨by (with_reducible repeat (first | apply Kd.V_alloc | apply Kd.V_drewN | apply Kd.V_drew)); (have hq_ := Kd.V_mono HO_0.out (fun k_ hk => (⟨hk, hk.2.2.2⟩ : _ ∧ k_ ≠ gb403)); have hq_ := Kd.V_far (p := ⟨gb403, 2, none⟩) hq_ (fun _ hk => hk.2) (.bool ((rd_T38 t390 x8_2).f2.f0)); have hq_ := Kd.V_far (p := ⟨gb403, 3, none⟩) hq_ (fun _ hk => hk.2) (.int .i64 ((rd_T38 t390 x8_2).f2.f1)); have hq_ := Kd.V_far (p := ⟨gb403, 4, none⟩) hq_ (fun _ hk => hk.2) (.string ((rd_T38 t390 x8_2).f2.f2)); have hq_ := Kd.V_far (p := ⟨gb403, 5, none⟩) hq_ (fun _ hk => hk.2) (.bool ((rd_T38 t390 x8_2).f3.f0)); have hq_ := Kd.V_far (p := ⟨gb403, 6, none⟩) hq_ (fun _ hk => hk.2) (.int .i64 ((rd_T38 t390 x8_2).f3.f1)); have hq_ := Kd.V_far (p := ⟨gb403, 7, none⟩) hq_ (fun _ hk => hk.2) (.string ((rd_T38 t390 x8_2).f3.f2)); exact Kd.V_mono hq_ (fun _ hk => ⟨hk.1.1, ⟨hk.1.2.1, ⟨hk.1.2.2.1, hk.1.2.2.2⟩⟩⟩))⟩, ⟨by (with_reducible repeat (first | apply Kd.R_alloc | apply Kd.R_drewN | apply Kd.R_drew)); (have hq_ := Kd.R_mono HO_6.out (fun k_ hk => (⟨hk, hk⟩ : _ ∧ k_ ≠ gb403)); have hq_ := Kd.R_far (p := ⟨gb403, 2, none⟩) hq_ (fun _ hk => hk.2) (.bool ((rd_T38 t390 x8_2).f2.f0)); have hq_ := Kd.R_far (p := ⟨gb403, 3, none⟩) hq_ (fun _ hk => hk.2) (.int .i64 ((rd_T38 t390 x8_2).f2.f1)); have hq_ := Kd.R_far (p := ⟨gb403, 4, none⟩) hq_ (fun _ hk => hk.2) (.string ((rd_T38 t390 x8_2).f2.f2)); have hq_ := Kd.R_far (p := ⟨gb403, 5, none⟩) hq_ (fun _ hk => hk.2) (.bool ((rd_T38 t390 x8_2).f3.f0)); have hq_ := Kd.R_far (p := ⟨gb403, 6, none⟩) hq_ (fun _ hk => hk.2) (.int .i64 ((rd_T38 t390 x8_2).f3.f1)); have hq_ := Kd.R_far (p := ⟨gb403, 7, none⟩) hq_ (fun _ hk => hk.2) (.string ((rd_T38 t390 x8_2).f3.f2)); exact Kd.R_mono hq_ (fun _ hk => hk.1))⟩, ⟨by (with_reducible repeat (first | apply Kd.R_alloc | apply Kd.R_drewN | apply Kd.R_drew)); (have hq_ := Kd.R_types HO_401002.out BK403.out (by decide); have hq_ := Kd.R_far (p := ⟨gb403, 2, none⟩) hq_ (fun _ hk => hk.2) (.bool ((rd_T38 t390 x8_2).f2.f0)); have hq_ := Kd.R_far (p := ⟨gb403, 3, none⟩) hq_ (fun _ hk => hk.2) (.int .i64 ((rd_T38 t390 x8_2).f2.f1)); have hq_ := Kd.R_far (p := ⟨gb403, 4, none⟩) hq_ (fun _ hk => hk.2) (.string ((rd_T38 t390 x8_2).f2.f2)); have hq_ := Kd.R_far (p := ⟨gb403, 5, none⟩) hq_ (fun _ hk => hk.2) (.bool ((rd_T38 t390 x8_2).f3.f0)); have hq_ := Kd.R_far (p := ⟨gb403, 6, none⟩) hq_ (fun _ hk => hk.2) (.int .i64 ((rd_T38 t390 x8_2).f3.f1)); have hq_ := Kd.R_far (p := ⟨gb403, 7, none⟩) hq_ (fun _ hk => hk.2) (.string ((rd_T38 t390 x8_2).f3.f2)); exact Kd.R_mono hq_ (fun _ hk => trivial))⟩, ⟨by (with_reducible repeat refine blk_drewN ?_ _); (iterate 6 (refine blk_far ?_ NB400_403.out _)); (with_reducible repeat (first | refine blk_drewN ?_ _ | refine blk_drew ?_ | refine blk_alloc ?_ _)); exact BK400.out⟩, ⟨by (with_reducible repeat refine blk_drewN ?_ _); refine blk_put (cs := #[.int .i64 x404000_2, .int .i64 x404001_2, .bool ((rd_T38 t390 x8_2).f2.f0), .int .i64 ((rd_T38 t390 x8_2).f2.f1), .string ((rd_T38 t390 x8_2).f2.f2), .bool ((rd_T38 t390 x8_2).f3.f0), .int .i64 ((rd_T38 t390 x8_2).f3.f1), .string x404007_2]) ?_ 7 _ rfl; refine blk_put (cs := #[.int .i64 x404000_2, .int .i64 x404001_2, .bool ((rd_T38 t390 x8_2).f2.f0), .int .i64 ((rd_T38 t390 x8_2).f2.f1), .string ((rd_T38 t390 x8_2).f2.f2), .bool ((rd_T38 t390 x8_2).f3.f0), .int .i64 x404006_2, .string x404007_2]) ?_ 6 _ rfl; refine blk_put (cs := #[.int .i64 x404000_2, .int .i64 x404001_2, .bool ((rd_T38 t390 x8_2).f2.f0), .int .i64 ((rd_T38 t390 x8_2).f2.f1), .string ((rd_T38 t390 x8_2).f2.f2), .bool x404005_2, .int .i64 x404006_2, .string x404007_2]) ?_ 5 _ rfl; refine blk_put (cs := #[.int .i64 x404000_2, .int .i64 x404001_2, .bool ((rd_T38 t390 x8_2).f2.f0), .int .i64 ((rd_T38 t390 x8_2).f2.f1), .string x404004_2, .bool x404005_2, .int .i64 x404006_2, .string x404007_2]) ?_ 4 _ rfl; refine blk_put (cs := #[.int .i64 x404000_2, .int .i64 x404001_2, .bool ((rd_T38 t390 x8_2).f2.f0), .int .i64 x404003_2, .string x404004_2, .bool x404005_2, .int .i64 x404006_2, .string x404007_2]) ?_ 3 _ rfl; refine blk_put (cs := #[.int .i64 x404000_2, .int .i64 x404001_2, .bool x404002_2, .int .i64 x404003_2, .string x404004_2, .bool x404005_2, .int .i64 x404006_2, .string x404007_2]) ?_ 2 _ rfl; (with_reducible repeat (first | refine blk_drewN ?_ _ | refine blk_drew ?_ | refine blk_alloc ?_ _)); exact BK403.out⟩, ⟨by repeat (first | (with_reducible first | exact HB.out | apply below_alloc | apply pw_below_drewN | apply below_drew1 | refine below_set ?_ GE400.out | refine below_set ?_ GE403.out) | exact HB.out)⟩⟩
                  ·rw [if_neg c56] at H
                   exact absurd H (by simp)
                 ·rw [if_neg c55] at H
                  exact absurd H (by simp)
                ·replace c54 := Bool.eq_false_iff.mpr c54
                 subst c54
                 have H1 : (tithebarnlaw17_LevelsKeeps.j4 kj37 t390 x6_2 false x8_2 t393 t394 t395 t398 x404000_2 x404001_2 x404002_2 x404003_2 x404004_2 x404005_2 x404006_2 x404007_2) = some r := by rw [if_neg (show ¬ (false = true) by decide)] at H; exact H
                 clear H
                 have H := H1
                 clear H1
                 have H' := Aside0.mk H
                 clear H
                 go_wp2
                 go_meet
                 case rel => exact ⟨_, (false), (x404002_2), (x404003_2), (x404004_2), (x404005_2), (x404006_2), (x404007_2), (by first | rfl | (simp; done) | (simp [*]; done)), H', ⟨by have := HJ5.out; have := HK2.out; have := HK3.out; have := HJ37.out; first | omega | exact Nat.le_refl _⟩, ⟨by (with_reducible repeat (first | apply Kd.V_alloc | apply Kd.V_drewN | apply Kd.V_drew)); exact HO_0.out⟩, ⟨by (with_reducible repeat (first | apply Kd.R_alloc | apply Kd.R_drewN | apply Kd.R_drew)); exact HO_6.out⟩, ⟨by (with_reducible repeat (first | apply Kd.R_alloc | apply Kd.R_drewN | apply Kd.R_drew)); exact HO_401002.out⟩, ⟨by (with_reducible repeat (first | refine blk_drewN ?_ _ | refine blk_drew ?_ | refine blk_alloc ?_ _)); exact BK400.out⟩, ⟨by (with_reducible repeat (first | refine blk_drewN ?_ _ | refine blk_drew ?_ | refine blk_alloc ?_ _)); exact BK403.out⟩, ⟨by repeat (first | (with_reducible first | exact HB.out | apply below_alloc | apply pw_below_drewN | apply below_drew1 | refine below_set ?_ GE400.out | refine below_set ?_ GE403.out) | exact HB.out)⟩⟩
               case rest =>
                clear HC53
                try clear c2
                try clear p2
                try clear c4
                try clear p4
                try clear q4
                try clear hx4
                try clear c5
                try clear c20
                try clear c41
                try clear p41
                try clear q41
                try clear hx41
                try clear c42
                try clear q43
                try clear c44
                try clear q46
                try clear c47
                try clear c52
                try clear c54
                try clear c55
                try clear c55b0
                try clear c56
                try clear c56b0
                try clear hx410_0 hx410_1 hx410_2 hx410_3 hx410_4 hx410_5 hx410_6 hx410_7
                try clear hx411_0 hx411_1 hx411_2 hx411_3 hx411_4 hx411_5 hx411_6 hx411_7
                try clear hx412_0 hx412_1 hx412_2 hx412_3 hx412_4 hx412_5 hx412_6 hx412_7
                try clear hx413_0 hx413_1 hx413_2 hx413_3 hx413_4 hx413_5 hx413_6 hx413_7
                try clear hx415_0 hx415_1 hx415_2 hx415_3 hx415_4 hx415_5 hx415_6 hx415_7
                try clear hx416_0 hx416_1 hx416_2 hx416_3 hx416_4 hx416_5 hx416_6 hx416_7
                try clear p2
                try clear p4
                try clear p41
                try clear p410
                try clear p411
                try clear p412
                try clear p413
                try clear p415
                try clear p416
                try clear q4
                try clear q41
                try clear q410
                try clear q411
                try clear q412
                try clear q413
                try clear q415
                try clear q416
                try clear q43
                try clear q46
                obtain ⟨kq, x7_52, x404002_52, x404003_52, x404004_52, x404005_52, x404006_52, x404007_52, rfl, HA, HJ52, HO_0, HO_6, HO_401002, BK400, BK403, HB⟩ := hcut
                cases kq with
                | zero => exact absurd HA.out (by simp [tithebarnlaw17_LevelsKeeps.j4])
                | succ kj52 =>
                 have H := HA.out
                 clear HA
                 simp only [tithebarnlaw17_LevelsKeeps.j4] at H
                 by_cases c64 : 0 ≤ x8_2
                 ·rw [if_pos c64] at H
                  have c64b0 : decide (0 ≤ x8_2) = true := decide_eq_true c64
                  clear c64
                  by_cases c65 : x8_2 < (t390.length : Int)
                  ·rw [if_pos c65] at H
                   have c65b0 : decide (x8_2 < (t390.length : Int)) = true := decide_eq_true c65
                   clear c65
                   replace H := Option.bind_eq_some_iff.mp H
                   obtain ⟨⟨t418, t419, t420, t421, t422, t423, t424, t425⟩, A660, H⟩ := H
                   replace H : (tithebarnlaw17_LevelsKeeps.l0 kj52 t390 x6_2 x7_52 (wrap64 (x8_2 + 1)) t393 t394 t395 t398 t418 t419 t420 t421 t422 t423 t424 t425) = some r := H
                   have A66 := Aside0.mk A660
                   clear A660
                   have H' := Aside0.mk H
                   clear H
                   try go_wp2
                   have n0_ := Aside0.mk (Kd.V_drew HO_0.out)
                   have n1_ := Aside0.mk (Kd.R_drew HO_6.out)
                   have n2_ := Aside0.mk (Kd.R_drew HO_401002.out)
                   have n3_ := Aside0.mk (blk_drew BK400.out)
                   have n4_ := Aside0.mk (blk_drew BK403.out)
                   have n5_ := Aside0.mk (below_drew1 HB.out)
                   clear HO_0
                   clear HO_6
                   clear HO_401002
                   clear BK400
                   clear BK403
                   clear HB
                   have HO_0 := n0_
                   have HO_6 := n1_
                   have HO_401002 := n2_
                   have BK400 := n3_
                   have BK403 := n4_
                   have HB := n5_
                   clear n0_ n1_ n2_ n3_ n4_ n5_
                   have p417 : 0 ≤ (x8_2 : Int) := of_decide_eq_true (by with_reducible assumption)
                   have q417 : x8_2 < (t390.length : Int) := of_decide_eq_true (by with_reducible assumption)
                   obtain ⟨ad417, e417, hx417_0, hx417_1, hx417_2, hx417_3, hx417_4, hx417_5, hx417_6, hx417_7⟩ := at_T38 (Kd.V_reads' HO_0.out).2.2 x8_2 p417 q417
                   cases e417
                   replace p417 := eq_true p417
                   replace q417 := eq_true q417
                   refine start_ (n := 7) (S := fun w' => w'.cell? ⟨gb403, 0, none⟩ = some (.int .i64 x404000_2) ∧ w'.cell? ⟨gb403, 1, none⟩ = some (.int .i64 x404001_2) ∧ w'.cell? ⟨gb403, 2, none⟩ = some (.bool x404002_52) ∧ w'.cell? ⟨gb403, 3, none⟩ = some (.int .i64 x404003_52) ∧ w'.cell? ⟨gb403, 4, none⟩ = some (.string x404004_52) ∧ w'.cell? ⟨gb403, 5, none⟩ = some (.bool x404005_52) ∧ w'.cell? ⟨gb403, 6, none⟩ = some (.int .i64 x404006_52) ∧ w'.cell? ⟨gb403, 7, none⟩ = some (.string x404007_52) ∧ w'.cell? (ad417.add ((x8_2).toNat * 8)) = some (.int .i64 ((rd_T38 t390 x8_2).f0)) ∧ w'.cell? ⟨(ad417.add ((x8_2).toNat * 8)).block, (ad417.add ((x8_2).toNat * 8)).off + 1, none⟩ = some (.int .i64 ((rd_T38 t390 x8_2).f1)) ∧ w'.cell? ⟨(ad417.add ((x8_2).toNat * 8)).block, (ad417.add ((x8_2).toNat * 8)).off + 2, none⟩ = some (.bool ((rd_T38 t390 x8_2).f2.f0)) ∧ w'.cell? ⟨(ad417.add ((x8_2).toNat * 8)).block, (ad417.add ((x8_2).toNat * 8)).off + 3, none⟩ = some (.int .i64 ((rd_T38 t390 x8_2).f2.f1)) ∧ w'.cell? ⟨(ad417.add ((x8_2).toNat * 8)).block, (ad417.add ((x8_2).toNat * 8)).off + 4, none⟩ = some (.string ((rd_T38 t390 x8_2).f2.f2)) ∧ w'.cell? ⟨(ad417.add ((x8_2).toNat * 8)).block, (ad417.add ((x8_2).toNat * 8)).off + 5, none⟩ = some (.bool ((rd_T38 t390 x8_2).f3.f0)) ∧ w'.cell? ⟨(ad417.add ((x8_2).toNat * 8)).block, (ad417.add ((x8_2).toNat * 8)).off + 6, none⟩ = some (.int .i64 ((rd_T38 t390 x8_2).f3.f1)) ∧ w'.cell? ⟨(ad417.add ((x8_2).toNat * 8)).block, (ad417.add ((x8_2).toNat * 8)).off + 7, none⟩ = some (.string ((rd_T38 t390 x8_2).f3.f2))) (ds := [6]) #[false, false, false, false, false, false, false] (by kernel_rfl) rfl rfl ⟨(blk_cell BK403.out 0).trans rfl, (blk_cell BK403.out 1).trans rfl, (blk_cell BK403.out 2).trans rfl, (blk_cell BK403.out 3).trans rfl, (blk_cell BK403.out 4).trans rfl, (blk_cell BK403.out 5).trans rfl, (blk_cell BK403.out 6).trans rfl, (blk_cell BK403.out 7).trans rfl, hx417_0, hx417_1, hx417_2, hx417_3, hx417_4, hx417_5, hx417_6, hx417_7⟩ (fun hHeld => ?_)
                   generalize wc.drew = w67 at HO_0 HO_6 HO_401002 BK400 BK403 HB hx417_0 hx417_1 hx417_2 hx417_3 hx417_4 hx417_5 hx417_6 hx417_7 hHeld ⊢
                   refine pure_ (i := 1) (N := some 111) (v := ?_) (a' := ?_) #[false, true, false, false, false, false, false] rfl rfl (by kernel_rfl) (fun _ _ _ h => h) (Or.inl ⟨by rfl, ?_⟩) ?_ ?_
                   rotate_left
                   ·intro w'
                    go_simp
                    with_reducible rfl
                   rotate_left
                   ·simp only [Act.put, List.setIfInBounds_toArray, List.set_cons_zero, List.set_cons_succ, i64_w, i32_w]
                    rfl
                   refine pure_ (i := 2) (N := some 112) (v := ?_) (a' := ?_) #[false, true, true, false, false, false, false] rfl rfl (by kernel_rfl) (fun _ _ _ h => h) (Or.inl ⟨by rfl, ?_⟩) ?_ ?_
                   rotate_left
                   ·intro w'
                    go_simp
                    with_reducible rfl
                   rotate_left
                   ·simp only [Act.put, List.setIfInBounds_toArray, List.set_cons_zero, List.set_cons_succ, i64_w, i32_w]
                    rfl
                   refine pure_ (i := 3) (N := some 113) (v := ?_) (a' := ?_) #[false, true, true, true, false, false, false] rfl rfl (by kernel_rfl) (fun _ _ _ h => h) (Or.inl ⟨by rfl, ?_⟩) ?_ ?_
                   rotate_left
                   ·intro w'
                    go_simp
                    with_reducible rfl
                   rotate_left
                   ·simp only [Act.put, List.setIfInBounds_toArray, List.set_cons_zero, List.set_cons_succ, i64_w, i32_w]
                    rfl
                   refine take_ (i := 0) (N := some 110) (v := ?_) (a' := ?_) #[true, true, true, true, false, false, false] rfl rfl (by kernel_rfl) (fun _ _ _ h => h) (Or.inl ⟨by rfl, ?_⟩) hHeld ?_ ?_
                   rotate_left
                   ·rintro w' ⟨s0, s1, s2, s3, s4, s5, s6, s7, s8, s9, s10, s11, s12, s13, s14, s15⟩
                    go_simp
                    with_reducible rfl
                   rotate_left
                   ·simp only [Act.put, List.setIfInBounds_toArray, List.set_cons_zero, List.set_cons_succ, i64_w, i32_w]
                    rfl
                   refine take_ (i := 4) (N := some 114) (v := ?_) (a' := ?_) #[true, true, true, true, true, false, false] rfl rfl (by kernel_rfl) (fun _ _ _ h => h) (Or.inl ⟨by rfl, ?_⟩) hHeld ?_ ?_
                   rotate_left
                   ·rintro w' ⟨s0, s1, s2, s3, s4, s5, s6, s7, s8, s9, s10, s11, s12, s13, s14, s15⟩
                    go_simp
                    with_reducible rfl
                   rotate_left
                   ·simp only [Act.put, List.setIfInBounds_toArray, List.set_cons_zero, List.set_cons_succ, i64_w, i32_w]
                    rfl
                   refine one_ (i := 5) (N := some 115) #[true, true, true, true, true, true, false] rfl rfl (by kernel_rfl) (by decide) (fun K hK => ?_)
                   refine goes_ Try.func21 (by kernel_rfl) rfl #[.agg #[.int .i64 x404000_2, .int .i64 x404001_2, .bool x404002_52, .int .i64 x404003_52, .string x404004_52, .bool x404005_52, .int .i64 x404006_52, .string x404007_52], .agg #[.int .i64 ((rd_T38 t390 x8_2).f0), .int .i64 ((rd_T38 t390 x8_2).f1), .bool ((rd_T38 t390 x8_2).f2.f0), .int .i64 ((rd_T38 t390 x8_2).f2.f1), .string ((rd_T38 t390 x8_2).f2.f2), .bool ((rd_T38 t390 x8_2).f3.f0), .int .i64 ((rd_T38 t390 x8_2).f3.f1), .string ((rd_T38 t390 x8_2).f3.f2)]] (by rfl) rfl rfl (by (try simp only [List.map_toArray, List.map_cons, List.map_nil]); first | done | rfl | (simp only [List.length_drop, List.length_take]; rfl)) ?_
                   with_reducible refine (tithebarnlaw17_wider.calls x404000_2 x404001_2 x404002_52 x404003_52 x404004_52 x404005_52 x404006_52 x404007_52 ((rd_T38 t390 x8_2).f0) ((rd_T38 t390 x8_2).f1) ((rd_T38 t390 x8_2).f2.f0) ((rd_T38 t390 x8_2).f2.f1) ((rd_T38 t390 x8_2).f2.f2) ((rd_T38 t390 x8_2).f3.f0) ((rd_T38 t390 x8_2).f3.f1) ((rd_T38 t390 x8_2).f3.f2) t418 t419 t420 t421 t422 t423 t424 t425 _ (by first | exact A66.out | (have z_ := A66.out; (try rw [← Nbq43.out] at z_); (try rw [← Nbq46.out] at z_); exact z_))).mono ?_
                   rintro e w68 ⟨rfl, hb⟩
                   have HS8_ := (hb.cell (World.block_lt_of_cell? _ _ (hHeld.2.2.2.2.2.2.2.2.1))).trans (hHeld.2.2.2.2.2.2.2.2.1)
                   have HS9_ := (hb.cell (World.block_lt_of_cell? _ _ (hHeld.2.2.2.2.2.2.2.2.2.1))).trans (hHeld.2.2.2.2.2.2.2.2.2.1)
                   have HS10_ := (hb.cell (World.block_lt_of_cell? _ _ (hHeld.2.2.2.2.2.2.2.2.2.2.1))).trans (hHeld.2.2.2.2.2.2.2.2.2.2.1)
                   have HS11_ := (hb.cell (World.block_lt_of_cell? _ _ (hHeld.2.2.2.2.2.2.2.2.2.2.2.1))).trans (hHeld.2.2.2.2.2.2.2.2.2.2.2.1)
                   have HS12_ := (hb.cell (World.block_lt_of_cell? _ _ (hHeld.2.2.2.2.2.2.2.2.2.2.2.2.1))).trans (hHeld.2.2.2.2.2.2.2.2.2.2.2.2.1)
                   have HS13_ := (hb.cell (World.block_lt_of_cell? _ _ (hHeld.2.2.2.2.2.2.2.2.2.2.2.2.2.1))).trans (hHeld.2.2.2.2.2.2.2.2.2.2.2.2.2.1)
                   have HS14_ := (hb.cell (World.block_lt_of_cell? _ _ (hHeld.2.2.2.2.2.2.2.2.2.2.2.2.2.2.1))).trans (hHeld.2.2.2.2.2.2.2.2.2.2.2.2.2.2.1)
                   have HS15_ := (hb.cell (World.block_lt_of_cell? _ _ (hHeld.2.2.2.2.2.2.2.2.2.2.2.2.2.2.2))).trans (hHeld.2.2.2.2.2.2.2.2.2.2.2.2.2.2.2)
                   refine ⟨_, rfl, ?_⟩
                   have n0_ := Aside0.mk (Kd.V_below (by (with_reducible repeat (first | apply Kd.V_alloc | apply Kd.V_drewN | apply Kd.V_drew)); exact HO_0.out) hb)
                   have n1_ := Aside0.mk (Kd.R_below (by (with_reducible repeat (first | apply Kd.R_alloc | apply Kd.R_drewN | apply Kd.R_drew)); exact HO_6.out) hb)
                   have n2_ := Aside0.mk (Kd.R_below (by (with_reducible repeat (first | apply Kd.R_alloc | apply Kd.R_drewN | apply Kd.R_drew)); exact HO_401002.out) hb)
                   have n3_ := Aside0.mk (blk_below (g := gb400) (o := .cells #[.int .i64 t393, .int .i64 t394, .slice Ao13 t395.length co13, .bool t398] 27 (0, 0)) (by (with_reducible repeat (first | refine blk_drewN ?_ _ | refine blk_drew ?_ | refine blk_alloc ?_ _)); exact BK400.out) hb)
                   have n4_ := Aside0.mk (blk_below (g := gb403) (o := .cells #[.int .i64 x404000_2, .int .i64 x404001_2, .bool x404002_52, .int .i64 x404003_52, .string x404004_52, .bool x404005_52, .int .i64 x404006_52, .string x404007_52] 38 (0, 0)) (by (with_reducible repeat (first | refine blk_drewN ?_ _ | refine blk_drew ?_ | refine blk_alloc ?_ _)); exact BK403.out) hb)
                   have n5_ := Aside0.mk (below_step (by with_reducible repeat first | exact HB.out | apply below_alloc | apply pw_below_drewN | apply below_drew1 | refine below_set ?_ GE400.out | refine below_set ?_ GE403.out) hb)
                   clear HO_0
                   clear HO_6
                   clear HO_401002
                   clear BK400
                   clear BK403
                   clear HB
                   have HO_0 := n0_
                   have HO_6 := n1_
                   have HO_401002 := n2_
                   have BK400 := n3_
                   have BK403 := n4_
                   have HB := n5_
                   clear n0_ n1_ n2_ n3_ n4_ n5_
                   (try clear hb)
                   (try clear hb2)
                   (try clear hk)
                   (try clear hi)
                   refine hK.out _ _ ⟨(blk_cell BK403.out 0).trans rfl, (blk_cell BK403.out 1).trans rfl, (blk_cell BK403.out 2).trans rfl, (blk_cell BK403.out 3).trans rfl, (blk_cell BK403.out 4).trans rfl, (blk_cell BK403.out 5).trans rfl, (blk_cell BK403.out 6).trans rfl, (blk_cell BK403.out 7).trans rfl, HS8_, HS9_, HS10_, HS11_, HS12_, HS13_, HS14_, HS15_⟩ (fun hHeld => ?_)
                   clear hK K
                   refine norm_ (a' := ?_) ?_ ?_
                   rotate_left
                   ·show Act.put _ (some 115) _ = _
                    simp only [Act.put, List.setIfInBounds_toArray, List.set_cons_zero, List.set_cons_succ, i64_w, i32_w]
                    rfl
                   refine last_ (i := 6) (N := none) #[true, true, true, true, true, true, true] rfl rfl (by kernel_rfl) (by decide) (fun K hK => ?_)
                   have hs69 : w68.cell? ⟨gb403, 0, none⟩ = some (.int .i64 x404000_2) := (blk_cell BK403.out 0).trans rfl
                   have hfs69 := blk_frozen BK403.out 0
                   have hns69_0 := NB400_403.out
                   have hms69_0 := NB403_400.out
                   have hs70 : w68.cell? ⟨gb403, 1, none⟩ = some (.int .i64 x404001_2) := (blk_cell BK403.out 1).trans rfl
                   have hfs70 := blk_frozen BK403.out 1
                   have hns70_0 := NB400_403.out
                   have hms70_0 := NB403_400.out
                   have hs71 : w68.cell? ⟨gb403, 2, none⟩ = some (.bool x404002_52) := (blk_cell BK403.out 2).trans rfl
                   have hfs71 := blk_frozen BK403.out 2
                   have hns71_0 := NB400_403.out
                   have hms71_0 := NB403_400.out
                   have hs72 : w68.cell? ⟨gb403, 3, none⟩ = some (.int .i64 x404003_52) := (blk_cell BK403.out 3).trans rfl
                   have hfs72 := blk_frozen BK403.out 3
                   have hns72_0 := NB400_403.out
                   have hms72_0 := NB403_400.out
                   have hs73 : w68.cell? ⟨gb403, 4, none⟩ = some (.string x404004_52) := (blk_cell BK403.out 4).trans rfl
                   have hfs73 := blk_frozen BK403.out 4
                   have hns73_0 := NB400_403.out
                   have hms73_0 := NB403_400.out
                   have hs74 : w68.cell? ⟨gb403, 5, none⟩ = some (.bool x404005_52) := (blk_cell BK403.out 5).trans rfl
                   have hfs74 := blk_frozen BK403.out 5
                   have hns74_0 := NB400_403.out
                   have hms74_0 := NB403_400.out
                   have hs75 : w68.cell? ⟨gb403, 6, none⟩ = some (.int .i64 x404006_52) := (blk_cell BK403.out 6).trans rfl
                   have hfs75 := blk_frozen BK403.out 6
                   have hns75_0 := NB400_403.out
                   have hms75_0 := NB403_400.out
                   have hs76 : w68.cell? ⟨gb403, 7, none⟩ = some (.string x404007_52) := (blk_cell BK403.out 7).trans rfl
                   have hfs76 := blk_frozen BK403.out 7
                   have hns76_0 := NB400_403.out
                   have hms76_0 := NB403_400.out
                   refine skip_ (w1 := ?_) (by rfl) rfl ?_ ?_
                   rotate_left
                   ·go_simp
                    rfl
                   refine hK.out _ _ ?_
                   clear hK K
                   refine done_ (by kernel_rfl) ?_
                   try go_wp2
                   go_roundg kj52
                   case measure => have := HJ5.out; have := HK2.out; have := HK3.out; have := HJ37.out; have := HJ52.out; omega
                   case rel => exact ⟨(x6_2), (x7_52), (wrap64 (x8_2 + 1)), (t418), (t419), (t420), (t421), (t422), (t423), (t424), (t425), (by first | rfl | (simp; done) | (simp [*]; done)), (by first | rfl | (simp; done) | (simp [*]; done)), H', ⟨by have := HJ5.out; have := HK2.out; have := HK3.out; have := HJ37.out; have := HJ52.out; omega⟩, ⟨by (with_reducible repeat (first | apply Kd.V_alloc | apply Kd.V_drewN | apply Kd.V_drew)); (have hq_ := Kd.V_mono HO_0.out (fun k_ hk => (⟨hk, hk.2.2.2⟩ : _ ∧ k_ ≠ gb403)); have hq_ := Kd.V_far (p := ⟨gb403, 0, none⟩) hq_ (fun _ hk => hk.2) (.int .i64 t418); have hq_ := Kd.V_far (p := ⟨gb403, 1, none⟩) hq_ (fun _ hk => hk.2) (.int .i64 t419); have hq_ := Kd.V_far (p := ⟨gb403, 2, none⟩) hq_ (fun _ hk => hk.2) (.bool t420); have hq_ := Kd.V_far (p := ⟨gb403, 3, none⟩) hq_ (fun _ hk => hk.2) (.int .i64 t421); have hq_ := Kd.V_far (p := ⟨gb403, 4, none⟩) hq_ (fun _ hk => hk.2) (.string t422); have hq_ := Kd.V_far (p := ⟨gb403, 5, none⟩) hq_ (fun _ hk => hk.2) (.bool t423); have hq_ := Kd.V_far (p := ⟨gb403, 6, none⟩) hq_ (fun _ hk => hk.2) (.int .i64 t424); have hq_ := Kd.V_far (p := ⟨gb403, 7, none⟩) hq_ (fun _ hk => hk.2) (.string t425); exact Kd.V_mono hq_ (fun _ hk => ⟨hk.1.1, ⟨hk.1.2.1, ⟨hk.1.2.2.1, hk.1.2.2.2⟩⟩⟩))⟩, ⟨by (with_reducible repeat (first | apply Kd.R_alloc | apply Kd.R_drewN | apply Kd.R_drew)); (have hq_ := Kd.R_mono HO_6.out (fun k_ hk => (⟨hk, hk⟩ : _ ∧ k_ ≠ gb403)); have hq_ := Kd.R_far (p := ⟨gb403, 0, none⟩) hq_ (fun _ hk => hk.2) (.int .i64 t418); have hq_ := Kd.R_far (p := ⟨gb403, 1, none⟩) hq_ (fun _ hk => hk.2) (.int .i64 t419); have hq_ := Kd.R_far (p := ⟨gb403, 2, none⟩) hq_ (fun _ hk => hk.2) (.bool t420); have hq_ := Kd.R_far (p := ⟨gb403, 3, none⟩) hq_ (fun _ hk => hk.2) (.int .i64 t421); have hq_ := Kd.R_far (p := ⟨gb403, 4, none⟩) hq_ (fun _ hk => hk.2) (.string t422); have hq_ := Kd.R_far (p := ⟨gb403, 5, none⟩) hq_ (fun _ hk => hk.2) (.bool t423); have hq_ := Kd.R_far (p := ⟨gb403, 6, none⟩) hq_ (fun _ hk => hk.2) (.int .i64 t424); have hq_ := Kd.R_far (p := ⟨gb403, 7, none⟩) hq_ (fun _ hk => hk.2) (.string t425); exact Kd.R_mono hq_ (fun _ hk => hk.1))⟩, ⟨by (with_reducible repeat (first | apply Kd.R_alloc | apply Kd.R_drewN | apply Kd.R_drew)); (have hq_ := Kd.R_types HO_401002.out BK403.out (by decide); have hq_ := Kd.R_far (p := ⟨gb403, 0, none⟩) hq_ (fun _ hk => hk.2) (.int .i64 t418); have hq_ := Kd.R_far (p := ⟨gb403, 1, none⟩) hq_ (fun _ hk => hk.2) (.int .i64 t419); have hq_ := Kd.R_far (p := ⟨gb403, 2, none⟩) hq_ (fun _ hk => hk.2) (.bool t420); have hq_ := Kd.R_far (p := ⟨gb403, 3, none⟩) hq_ (fun _ hk => hk.2) (.int .i64 t421); have hq_ := Kd.R_far (p := ⟨gb403, 4, none⟩) hq_ (fun _ hk => hk.2) (.string t422); have hq_ := Kd.R_far (p := ⟨gb403, 5, none⟩) hq_ (fun _ hk => hk.2) (.bool t423); have hq_ := Kd.R_far (p := ⟨gb403, 6, none⟩) hq_ (fun _ hk => hk.2) (.int .i64 t424); have hq_ := Kd.R_far (p := ⟨gb403, 7, none⟩) hq_ (fun _ hk => hk.2) (.string t425); exact Kd.R_mono hq_ (fun _ hk => trivial))⟩, ⟨by (with_reducible repeat refine blk_drewN ?_ _); (iterate 8 (refine blk_far ?_ NB400_403.out _)); (with_reducible repeat (first | refine blk_drewN ?_ _ | refine blk_drew ?_ | refine blk_alloc ?_ _)); exact BK400.out⟩, ⟨by (with_reducible repeat refine blk_drewN ?_ _); refine blk_put (cs := #[.int .i64 t418, .int .i64 t419, .bool t420, .int .i64 t421, .string t422, .bool t423, .int .i64 t424, .string x404007_52]) ?_ 7 _ rfl; refine blk_put (cs := #[.int .i64 t418, .int .i64 t419, .bool t420, .int .i64 t421, .string t422, .bool t423, .int .i64 x404006_52, .string x404007_52]) ?_ 6 _ rfl; refine blk_put (cs := #[.int .i64 t418, .int .i64 t419, .bool t420, .int .i64 t421, .string t422, .bool x404005_52, .int .i64 x404006_52, .string x404007_52]) ?_ 5 _ rfl; refine blk_put (cs := #[.int .i64 t418, .int .i64 t419, .bool t420, .int .i64 t421, .string x404004_52, .bool x404005_52, .int .i64 x404006_52, .string x404007_52]) ?_ 4 _ rfl; refine blk_put (cs := #[.int .i64 t418, .int .i64 t419, .bool t420, .int .i64 x404003_52, .string x404004_52, .bool x404005_52, .int .i64 x404006_52, .string x404007_52]) ?_ 3 _ rfl; refine blk_put (cs := #[.int .i64 t418, .int .i64 t419, .bool x404002_52, .int .i64 x404003_52, .string x404004_52, .bool x404005_52, .int .i64 x404006_52, .string x404007_52]) ?_ 2 _ rfl; refine blk_put (cs := #[.int .i64 t418, .int .i64 x404001_2, .bool x404002_52, .int .i64 x404003_52, .string x404004_52, .bool x404005_52, .int .i64 x404006_52, .string x404007_52]) ?_ 1 _ rfl; refine blk_put (cs := #[.int .i64 x404000_2, .int .i64 x404001_2, .bool x404002_52, .int .i64 x404003_52, .string x404004_52, .bool x404005_52, .int .i64 x404006_52, .string x404007_52]) ?_ 0 _ rfl; (with_reducible repeat (first | refine blk_drewN ?_ _ | refine blk_drew ?_ | refine blk_alloc ?_ _)); exact BK403.out⟩, ⟨by repeat (first | (with_reducible first | exact HB.out | apply below_alloc | apply pw_below_drewN | apply below_drew1 | refine below_set ?_ GE400.out | refine below_set ?_ GE403.out) | exact HB.out)⟩⟩
                  ·rw [if_neg c65] at H
                   exact absurd H (by simp)
                 ·rw [if_neg c64] at H
                  exact absurd H (by simp)
           ·replace c37 := Bool.eq_false_iff.mpr c37
            subst c37
            have H1 : (if 0 ≤ x8_2 then (if x8_2 < (t390.length : Int) then (if x6_2.length < 1759218604441 then (tithebarnlaw17_LevelsKeeps.l0 k3 t390 (x6_2 ++ [(⟨(rd_T38 t390 x8_2).f0, (rd_T38 t390 x8_2).f1, (⟨(rd_T38 t390 x8_2).f2.f0, (rd_T38 t390 x8_2).f2.f1, (rd_T38 t390 x8_2).f2.f2⟩ : S36), (⟨(rd_T38 t390 x8_2).f3.f0, (rd_T38 t390 x8_2).f3.f1, (rd_T38 t390 x8_2).f3.f2⟩ : S36)⟩ : S38)]) x7_2 (wrap64 (x8_2 + 1)) t393 t394 t395 t398 x404000_2 x404001_2 x404002_2 x404003_2 x404004_2 x404005_2 x404006_2 x404007_2) else (none)) else (none)) else (none)) = some r := by rw [if_neg (show ¬ (false = true) by decide)] at H; exact H
            clear H
            have H := H1
            clear H1
            by_cases c77 : 0 ≤ x8_2
            ·rw [if_pos c77] at H
             have c77b0 : decide (0 ≤ x8_2) = true := decide_eq_true c77
             clear c77
             by_cases c78 : x8_2 < (t390.length : Int)
             ·rw [if_pos c78] at H
              have c78b0 : decide (x8_2 < (t390.length : Int)) = true := decide_eq_true c78
              clear c78
              by_cases c79 : x6_2.length < 1759218604441
              ·rw [if_pos c79] at H
               have LMc79 := Aside0.mk c79
               clear c79
               obtain ⟨y407, hy407⟩ : ∃ y_ : List (S38), y_ = (x6_2 ++ [(⟨(rd_T38 t390 x8_2).f0, (rd_T38 t390 x8_2).f1, (⟨(rd_T38 t390 x8_2).f2.f0, (rd_T38 t390 x8_2).f2.f1, (rd_T38 t390 x8_2).f2.f2⟩ : S36), (⟨(rd_T38 t390 x8_2).f3.f0, (rd_T38 t390 x8_2).f3.f1, (rd_T38 t390 x8_2).f3.f2⟩ : S36)⟩ : S38)]) := ⟨_, rfl⟩
               replace H : (tithebarnlaw17_LevelsKeeps.l0 k3 t390 y407 x7_2 (wrap64 (x8_2 + 1)) t393 t394 t395 t398 x404000_2 x404001_2 x404002_2 x404003_2 x404004_2 x404005_2 x404006_2 x404007_2) = some r := by first | (rw [hy407]; with_reducible exact H) | (have H2_ := (Option.bind_some _ _).symm.trans H; rw [hy407]; with_reducible exact H2_) | (have H2_ := (Option.bind_some _ _).symm.trans H; with_reducible exact H2_) | with_reducible exact H | (rw [hy407]; exact H) | exact H
               have Ny407 := Aside0.mk hy407
               clear hy407
               have H' := Aside0.mk H
               clear H
               have hnb80 := NB400_403.out
               have hnc80 := NB403_400.out
               obtain ⟨hcz81_0, hcz81_1, hcz81_2, hcz81_3⟩ := bc4 BK400.out
               obtain ⟨hfz81_0, hfz81_1, hfz81_2, hfz81_3⟩ := bf4 BK400.out
               have p406 : 0 ≤ (x8_2 : Int) := of_decide_eq_true (by with_reducible assumption)
               have q406 : x8_2 < (t390.length : Int) := of_decide_eq_true (by with_reducible assumption)
               obtain ⟨ad406, e406, hx406_0, hx406_1, hx406_2, hx406_3, hx406_4, hx406_5, hx406_6, hx406_7⟩ := at_T38 (Kd.V_reads' HO_0.out).2.2 x8_2 p406 q406
               cases e406
               replace p406 := eq_true p406
               replace q406 := eq_true q406
               go_wp2_with (first | ((with_reducible refine gate_builtin (b := .append) (xs := #[.tmp 64, .tmp 69]) rfl ?_); (try (refine gate_guard (by rfl) ?_; dsimp only)); at_builtin; refine Kd.R_append k38 (w0 := w) w.heap.size rfl (.tmp 64) (.tmp 69) 22 38 (.agg #[(.int .i64 0), (.int .i64 0), (.bool false), (.int .i64 0), (.string ⟨#[]⟩), (.bool false), (.int .i64 0), (.string ⟨#[]⟩)]) 80 rfl Try.underlying22 info38 rfl (by decide) (by omega) u6 x6_2 (⟨(rd_T38 t390 x8_2).f0, (rd_T38 t390 x8_2).f1, (⟨(rd_T38 t390 x8_2).f2.f0, (rd_T38 t390 x8_2).f2.f1, (rd_T38 t390 x8_2).f2.f2⟩ : S36), (⟨(rd_T38 t390 x8_2).f3.f0, (rd_T38 t390 x8_2).f3.f1, (rd_T38 t390 x8_2).f3.f2⟩ : S36)⟩ : S38) [.int .i64 ((rd_T38 t390 x8_2).f0), .int .i64 ((rd_T38 t390 x8_2).f1), .bool ((rd_T38 t390 x8_2).f2.f0), .int .i64 ((rd_T38 t390 x8_2).f2.f1), .string ((rd_T38 t390 x8_2).f2.f2), .bool ((rd_T38 t390 x8_2).f3.f0), .int .i64 ((rd_T38 t390 x8_2).f3.f1), .string ((rd_T38 t390 x8_2).f3.f2)] (fun k_ => k_ ≠ gb403) (fun _ => False) rfl rfl ?aP (fun _ hk => hk.elim) ?aF ?aO ?aB ?aS ?aL ?_; (case aP => exact k38_mkM _ _ _ (⟨(rd_T38 t390 x8_2).f0, (rd_T38 t390 x8_2).f1, (⟨(rd_T38 t390 x8_2).f2.f0, (rd_T38 t390 x8_2).f2.f1, (rd_T38 t390 x8_2).f2.f2⟩ : S36), (⟨(rd_T38 t390 x8_2).f3.f0, (rd_T38 t390 x8_2).f3.f1, (rd_T38 t390 x8_2).f3.f2⟩ : S36)⟩ : S38)); (case aB => exact (by with_reducible repeat first | exact HB.out | apply below_alloc | apply pw_below_drewN | apply below_drew1 | refine below_set ?_ GE400.out | refine below_set ?_ GE403.out)); (case aF => exact (fun k_ hk => Kd.freshB (g := gb403) (o := .cells #[.int .i64 x404000_2, .int .i64 x404001_2, .bool x404002_2, .int .i64 x404003_2, .string x404004_2, .bool x404005_2, .int .i64 x404006_2, .string x404007_2] 38 (0, 0)) (by (with_reducible repeat (first | refine blk_drewN ?_ _ | refine blk_drew ?_ | refine blk_alloc ?_ _)); exact BK403.out) k_ hk)); (case aO => exact (by (with_reducible repeat (first | apply Kd.R_alloc | apply Kd.R_drewN | apply Kd.R_drew)); exact HO_6.out)); (case aS => exact (below_size (by with_reducible repeat first | exact HB.out | apply below_alloc | apply pw_below_drewN | apply below_drew1 | refine below_set ?_ GE400.out | refine below_set ?_ GE403.out))); (case aL => have := LMc79.out; omega); intro v408 w82 ho hb hg hat; rw [← Ny407.out] at ho; have n0_ := Aside0.mk (Kd.V_afterv (ok := (fun k_ => some k_ ≠ (.slice Ao13 t395.length co13 : Value).ownBlock ∧ k_ ≠ gb400 ∧ k_ ≠ gb403)) (by (with_reducible repeat (first | apply Kd.V_alloc | apply Kd.V_drewN | apply Kd.V_drew)); exact Kd.V_mono HO_0.out (fun _ hk => ⟨⟨hk.2.1, ⟨hk.2.2.1, hk.2.2.2⟩⟩, hk.1⟩)) hg hat); have n1_ := Aside0.mk (Kd.R_over' (by (with_reducible repeat (first | apply Kd.R_alloc | apply Kd.R_drewN | apply Kd.R_drew)); exact HO_401002.out) (Kd.R_typed (by (with_reducible repeat (first | apply Kd.R_alloc | apply Kd.R_drewN | apply Kd.R_drew)); exact HO_6.out)) (by decide) hg); have n2_ := Aside0.mk (blk_grown (g := gb400) (o := .cells #[.int .i64 t393, .int .i64 t394, .slice Ao13 t395.length co13, .bool t398] 27 (0, 0)) (by (with_reducible repeat (first | refine blk_drewN ?_ _ | refine blk_drew ?_ | refine blk_alloc ?_ _)); exact BK400.out) hg (Kd.R_ne HO_6.out BK400.out (by decide))); have n3_ := Aside0.mk (blk_grown (g := gb403) (o := .cells #[.int .i64 x404000_2, .int .i64 x404001_2, .bool x404002_2, .int .i64 x404003_2, .string x404004_2, .bool x404005_2, .int .i64 x404006_2, .string x404007_2] 38 (0, 0)) (by (with_reducible repeat (first | refine blk_drewN ?_ _ | refine blk_drew ?_ | refine blk_alloc ?_ _)); exact BK403.out) hg (Kd.R_away HO_6.out (fun _ hk => hk))); have n4_ := Aside0.mk (hb); have n5_ := Aside0.mk (ho); clear HO_0; clear HO_401002; clear BK400; clear BK403; clear HB; clear HO_6; have HO_0 := n0_; have HO_401002 := n1_; have BK400 := n2_; have BK403 := n3_; have HB := n4_; have HO409 := n5_; clear n0_ n1_ n2_ n3_ n4_ n5_; clear ho hb hg hat))
               go_roundg k3
               case measure => have := HJ5.out; have := HK2.out; have := HK3.out; omega
               case rel => exact ⟨(y407), (x7_2), (wrap64 (x8_2 + 1)), (x404000_2), (x404001_2), (x404002_2), (x404003_2), (x404004_2), (x404005_2), (x404006_2), (x404007_2), (by first | rfl | (simp; done) | (simp [*]; done)), (by first | rfl | (simp; done) | (simp [*]; done)), H', ⟨by have := HJ5.out; have := HK2.out; have := HK3.out; omega⟩, ⟨by (with_reducible repeat (first | apply Kd.V_alloc | apply Kd.V_drewN | apply Kd.V_drew)); exact Kd.V_mono HO_0.out (fun _ hk => ⟨hk.2, ⟨hk.1.1, ⟨hk.1.2.1, hk.1.2.2⟩⟩⟩)⟩, ⟨by (with_reducible repeat (first | apply Kd.R_alloc | apply Kd.R_drewN | apply Kd.R_drew)); exact HO409.out⟩, ⟨by (with_reducible repeat (first | apply Kd.R_alloc | apply Kd.R_drewN | apply Kd.R_drew)); exact HO_401002.out⟩, ⟨by (with_reducible repeat (first | refine blk_drewN ?_ _ | refine blk_drew ?_ | refine blk_alloc ?_ _)); exact BK400.out⟩, ⟨by (with_reducible repeat (first | refine blk_drewN ?_ _ | refine blk_drew ?_ | refine blk_alloc ?_ _)); exact BK403.out⟩, ⟨by repeat (first | (with_reducible first | exact HB.out | apply below_alloc | apply pw_below_drewN | apply below_drew1 | refine below_set ?_ GE400.out | refine below_set ?_ GE403.out) | exact HB.out)⟩⟩
              ·rw [if_neg c79] at H
               exact absurd H (by simp)
             ·rw [if_neg c78] at H
              exact absurd H (by simp)
            ·rw [if_neg c77] at H
             exact absurd H (by simp)
       ·rw [if_neg c25] at H
        have c25b0 : decide (x8_2 < (t390.length : Int)) = false := decide_eq_false c25
        clear c25
        replace H := Option.bind_eq_some_iff.mp H
        obtain ⟨t426, A830, H⟩ := H
        replace H : (if t426 = true then (if x6_2.length < 1759218604441 then ((levels_Disjoint.f k2 (x6_2 ++ [(⟨x404000_2, x404001_2, (⟨x404002_2, x404003_2, x404004_2⟩ : S36), (⟨x404005_2, x404006_2, x404007_2⟩ : S36)⟩ : S38)])).bind fun t430 => (some t430)) else (none)) else (some true)) = some r := H
        have A83 := Aside0.mk A830
        clear A830
        by_cases c84 : t426 = true
        ·subst c84
         have H1 : (if x6_2.length < 1759218604441 then ((levels_Disjoint.f k2 (x6_2 ++ [(⟨x404000_2, x404001_2, (⟨x404002_2, x404003_2, x404004_2⟩ : S36), (⟨x404005_2, x404006_2, x404007_2⟩ : S36)⟩ : S38)])).bind fun t430 => (some t430)) else (none)) = some r := by rw [if_pos rfl] at H; exact H
         clear H
         have H := H1
         clear H1
         by_cases c85 : x6_2.length < 1759218604441
         ·rw [if_pos c85] at H
          have LMc85 := Aside0.mk c85
          clear c85
          obtain ⟨y427, hy427⟩ : ∃ y_ : List (S38), y_ = (x6_2 ++ [(⟨x404000_2, x404001_2, (⟨x404002_2, x404003_2, x404004_2⟩ : S36), (⟨x404005_2, x404006_2, x404007_2⟩ : S36)⟩ : S38)]) := ⟨_, rfl⟩
          replace H : ((levels_Disjoint.f k2 y427).bind fun t430 => (some t430)) = some r := by first | (rw [hy427]; with_reducible exact H) | (have H2_ := (Option.bind_some _ _).symm.trans H; rw [hy427]; with_reducible exact H2_) | (have H2_ := (Option.bind_some _ _).symm.trans H; with_reducible exact H2_) | with_reducible exact H | (rw [hy427]; exact H) | exact H
          have Ny427 := Aside0.mk hy427
          clear hy427
          replace H := Option.bind_eq_some_iff.mp H
          obtain ⟨t430, A860, H⟩ := H
          replace H : (some t430) = some r := H
          have A86 := Aside0.mk A860
          clear A860
          obtain rfl := Option.some.inj H
          obtain ⟨Ao87, co87, eo87⟩ := Kd.R_slice HO_6.out
          subst eo87
          go_wp2_with (first | ((with_reducible refine gate_callee (f := 22) rfl ?_); refine goesL_ (some 117) rfl rfl Try.func22 (by kernel_rfl) rfl #[.slice Ao87 x6_2.length co87] rfl (by (try simp only [List.map_toArray, List.map_cons, List.map_nil]); first | done | rfl | (simp only [List.length_drop, List.length_take]; rfl)) ?_; (with_reducible refine (tithebarnlaw17_well.calls k2 _ _ x6_2 true _ ?side1 ?side2 (by first | exact A83.out | (have z_ := A83.out; (try rw [← Nbq43.out] at z_); (try rw [← Nbq46.out] at z_); exact z_))).mono ?_); (case side1 => repeat (first | exact (Kd.R_reads' HO_6.out).2.2 | (with_reducible refine Kd.C_alloc ?_ _) | (with_reducible refine Kd.C_drewN ?_ _) | (with_reducible refine Kd.C_drew ?_))); (case side2 => exact (Kd.R_reads' HO_6.out).2.1); rintro e w88 ⟨rfl, hb⟩; refine ⟨_, rfl, ?_⟩; have n0_ := Aside0.mk (Kd.V_below (by (with_reducible repeat (first | apply Kd.V_alloc | apply Kd.V_drewN | apply Kd.V_drew)); exact HO_0.out) hb); have n1_ := Aside0.mk (Kd.R_below (by (with_reducible repeat (first | apply Kd.R_alloc | apply Kd.R_drewN | apply Kd.R_drew)); exact HO_6.out) hb); have n2_ := Aside0.mk (Kd.R_below (by (with_reducible repeat (first | apply Kd.R_alloc | apply Kd.R_drewN | apply Kd.R_drew)); exact HO_401002.out) hb); have n3_ := Aside0.mk (blk_below (g := gb400) (o := .cells #[.int .i64 t393, .int .i64 t394, .slice Ao13 t395.length co13, .bool t398] 27 (0, 0)) (by (with_reducible repeat (first | refine blk_drewN ?_ _ | refine blk_drew ?_ | refine blk_alloc ?_ _)); exact BK400.out) hb); have n4_ := Aside0.mk (blk_below (g := gb403) (o := .cells #[.int .i64 x404000_2, .int .i64 x404001_2, .bool x404002_2, .int .i64 x404003_2, .string x404004_2, .bool x404005_2, .int .i64 x404006_2, .string x404007_2] 38 (0, 0)) (by (with_reducible repeat (first | refine blk_drewN ?_ _ | refine blk_drew ?_ | refine blk_alloc ?_ _)); exact BK403.out) hb); have n5_ := Aside0.mk (below_step (by with_reducible repeat first | exact HB.out | apply below_alloc | apply pw_below_drewN | apply below_drew1 | refine below_set ?_ GE400.out | refine below_set ?_ GE403.out) hb); clear HO_0; clear HO_6; clear HO_401002; clear BK400; clear BK403; clear HB; have HO_0 := n0_; have HO_6 := n1_; have HO_401002 := n2_; have BK400 := n3_; have BK403 := n4_; have HB := n5_; clear n0_ n1_ n2_ n3_ n4_ n5_; (try clear hb); (try clear hb2); (try clear hk); (try clear hi); have hnb89 := NB403_400.out; have hnc89 := NB400_403.out; obtain ⟨hcz90_0, hcz90_1, hcz90_2, hcz90_3, hcz90_4, hcz90_5, hcz90_6, hcz90_7⟩ := bc8 BK403.out; obtain ⟨hfz90_0, hfz90_1, hfz90_2, hfz90_3, hfz90_4, hfz90_5, hfz90_6, hfz90_7⟩ := bf8 BK403.out) | ((with_reducible refine gate_builtin (b := .append) (xs := #[.tmp 120, .tmp 122]) rfl ?_); (try (refine gate_guard (by rfl) ?_; dsimp only)); at_builtin; refine Kd.R_append k38 (w0 := w) w.heap.size rfl (.tmp 120) (.tmp 122) 22 38 (.agg #[(.int .i64 0), (.int .i64 0), (.bool false), (.int .i64 0), (.string ⟨#[]⟩), (.bool false), (.int .i64 0), (.string ⟨#[]⟩)]) 80 rfl Try.underlying22 info38 rfl (by decide) (by omega) (.slice Ao87 x6_2.length co87) x6_2 (⟨x404000_2, x404001_2, (⟨x404002_2, x404003_2, x404004_2⟩ : S36), (⟨x404005_2, x404006_2, x404007_2⟩ : S36)⟩ : S38) [.int .i64 x404000_2, .int .i64 x404001_2, .bool x404002_2, .int .i64 x404003_2, .string x404004_2, .bool x404005_2, .int .i64 x404006_2, .string x404007_2] (fun k_ => k_ ≠ gb403) (fun _ => False) rfl rfl ?aP (fun _ hk => hk.elim) ?aF ?aO ?aB ?aS ?aL ?_; (case aP => exact k38_mkM _ _ _ (⟨x404000_2, x404001_2, (⟨x404002_2, x404003_2, x404004_2⟩ : S36), (⟨x404005_2, x404006_2, x404007_2⟩ : S36)⟩ : S38)); (case aB => exact (by with_reducible repeat first | exact HB.out | apply below_alloc | apply pw_below_drewN | apply below_drew1 | refine below_set ?_ GE400.out | refine below_set ?_ GE403.out)); (case aF => exact (fun k_ hk => Kd.freshB (g := gb403) (o := .cells #[.int .i64 x404000_2, .int .i64 x404001_2, .bool x404002_2, .int .i64 x404003_2, .string x404004_2, .bool x404005_2, .int .i64 x404006_2, .string x404007_2] 38 (0, 0)) (by (with_reducible repeat (first | refine blk_drewN ?_ _ | refine blk_drew ?_ | refine blk_alloc ?_ _)); exact BK403.out) k_ hk)); (case aO => exact (by (with_reducible repeat (first | apply Kd.R_alloc | apply Kd.R_drewN | apply Kd.R_drew)); exact HO_6.out)); (case aS => exact (below_size (by with_reducible repeat first | exact HB.out | apply below_alloc | apply pw_below_drewN | apply below_drew1 | refine below_set ?_ GE400.out | refine below_set ?_ GE403.out))); (case aL => have := LMc85.out; omega); intro v428 w91 ho hb hg hat; rw [← Ny427.out] at ho; have n0_ := Aside0.mk (Kd.V_afterv (ok := (fun k_ => some k_ ≠ (.slice Ao13 t395.length co13 : Value).ownBlock ∧ k_ ≠ gb400 ∧ k_ ≠ gb403)) (by (with_reducible repeat (first | apply Kd.V_alloc | apply Kd.V_drewN | apply Kd.V_drew)); exact Kd.V_mono HO_0.out (fun _ hk => ⟨⟨hk.2.1, ⟨hk.2.2.1, hk.2.2.2⟩⟩, hk.1⟩)) hg hat); have n1_ := Aside0.mk (Kd.R_over' (by (with_reducible repeat (first | apply Kd.R_alloc | apply Kd.R_drewN | apply Kd.R_drew)); exact HO_401002.out) (Kd.R_typed (by (with_reducible repeat (first | apply Kd.R_alloc | apply Kd.R_drewN | apply Kd.R_drew)); exact HO_6.out)) (by decide) hg); have n2_ := Aside0.mk (blk_grown (g := gb400) (o := .cells #[.int .i64 t393, .int .i64 t394, .slice Ao13 t395.length co13, .bool t398] 27 (0, 0)) (by (with_reducible repeat (first | refine blk_drewN ?_ _ | refine blk_drew ?_ | refine blk_alloc ?_ _)); exact BK400.out) hg (Kd.R_ne HO_6.out BK400.out (by decide))); have n3_ := Aside0.mk (blk_grown (g := gb403) (o := .cells #[.int .i64 x404000_2, .int .i64 x404001_2, .bool x404002_2, .int .i64 x404003_2, .string x404004_2, .bool x404005_2, .int .i64 x404006_2, .string x404007_2] 38 (0, 0)) (by (with_reducible repeat (first | refine blk_drewN ?_ _ | refine blk_drew ?_ | refine blk_alloc ?_ _)); exact BK403.out) hg (Kd.R_away HO_6.out (fun _ hk => hk))); have n4_ := Aside0.mk (hb); have n5_ := Aside0.mk (ho); clear HO_0; clear HO_401002; clear BK400; clear BK403; clear HB; clear HO_6; have HO_0 := n0_; have HO_401002 := n1_; have BK400 := n2_; have BK403 := n3_; have HB := n4_; have HO429 := n5_; clear n0_ n1_ n2_ n3_ n4_ n5_; clear ho hb hg hat; obtain ⟨Ao92, co92, eo92⟩ := Kd.R_slice HO429.out; subst eo92) | (go_at_call 13; (with_reducible refine (levels_Disjoint.calls k2 _ _ y427 t430 _ ?side1 ?side2 (by first | exact A86.out | (have z_ := A86.out; (try rw [← Nbq43.out] at z_); (try rw [← Nbq46.out] at z_); exact z_))).mono ?_); (case side1 => repeat (first | exact (Kd.R_reads' HO429.out).2.2 | (with_reducible refine Kd.C_alloc ?_ _) | (with_reducible refine Kd.C_drewN ?_ _) | (with_reducible refine Kd.C_drew ?_))); (case side2 => exact (Kd.R_reads' HO429.out).2.1); rintro e w93 ⟨rfl, hb⟩; have n0_ := Aside0.mk (Kd.V_below (by (with_reducible repeat (first | apply Kd.V_alloc | apply Kd.V_drewN | apply Kd.V_drew)); exact HO_0.out) hb); have n1_ := Aside0.mk (Kd.R_below (by (with_reducible repeat (first | apply Kd.R_alloc | apply Kd.R_drewN | apply Kd.R_drew)); exact HO_401002.out) hb); have n2_ := Aside0.mk (Kd.R_below (by (with_reducible repeat (first | apply Kd.R_alloc | apply Kd.R_drewN | apply Kd.R_drew)); exact HO429.out) hb); have n3_ := Aside0.mk (blk_below (g := gb400) (o := .cells #[.int .i64 t393, .int .i64 t394, .slice Ao13 t395.length co13, .bool t398] 27 (0, 0)) (by (with_reducible repeat (first | refine blk_drewN ?_ _ | refine blk_drew ?_ | refine blk_alloc ?_ _)); exact BK400.out) hb); have n4_ := Aside0.mk (blk_below (g := gb403) (o := .cells #[.int .i64 x404000_2, .int .i64 x404001_2, .bool x404002_2, .int .i64 x404003_2, .string x404004_2, .bool x404005_2, .int .i64 x404006_2, .string x404007_2] 38 (0, 0)) (by (with_reducible repeat (first | refine blk_drewN ?_ _ | refine blk_drew ?_ | refine blk_alloc ?_ _)); exact BK403.out) hb); have n5_ := Aside0.mk (below_step (by with_reducible repeat first | exact HB.out | apply below_alloc | apply pw_below_drewN | apply below_drew1 | refine below_set ?_ GE400.out | refine below_set ?_ GE403.out) hb); clear HO_0; clear HO_401002; clear HO429; clear BK400; clear BK403; clear HB; have HO_0 := n0_; have HO_401002 := n1_; have HO429 := n2_; have BK400 := n3_; have BK403 := n4_; have HB := n5_; clear n0_ n1_ n2_ n3_ n4_ n5_; (try clear hb); (try clear hb2); (try clear hk); (try clear hi)))
          go_ret
          exact ⟨by first | rfl | (simp [errW_none, errW_some] <;> rfl) | (simp [*, errW_none, errW_some] <;> rfl), by repeat (first | (with_reducible first | exact HB.out | apply below_alloc | apply pw_below_drewN | apply below_drew1 | refine below_set ?_ GE400.out | refine below_set ?_ GE403.out) | exact HB.out)⟩
         ·rw [if_neg c85] at H
          exact absurd H (by simp)
        ·replace c84 := Bool.eq_false_iff.mpr c84
         subst c84
         have H1 : (some true) = some r := by rw [if_neg (show ¬ (false = true) by decide)] at H; exact H
         clear H
         have H := H1
         clear H1
         obtain rfl := Option.some.inj H
         obtain ⟨Ao94, co94, eo94⟩ := Kd.R_slice HO_6.out
         subst eo94
         go_wp2_with (first | ((with_reducible refine gate_callee (f := 22) rfl ?_); refine goesL_ (some 117) rfl rfl Try.func22 (by kernel_rfl) rfl #[.slice Ao94 x6_2.length co94] rfl (by (try simp only [List.map_toArray, List.map_cons, List.map_nil]); first | done | rfl | (simp only [List.length_drop, List.length_take]; rfl)) ?_; (with_reducible refine (tithebarnlaw17_well.calls k2 _ _ x6_2 false _ ?side1 ?side2 (by first | exact A83.out | (have z_ := A83.out; (try rw [← Nbq43.out] at z_); (try rw [← Nbq46.out] at z_); exact z_))).mono ?_); (case side1 => repeat (first | exact (Kd.R_reads' HO_6.out).2.2 | (with_reducible refine Kd.C_alloc ?_ _) | (with_reducible refine Kd.C_drewN ?_ _) | (with_reducible refine Kd.C_drew ?_))); (case side2 => exact (Kd.R_reads' HO_6.out).2.1); rintro e w95 ⟨rfl, hb⟩; refine ⟨_, rfl, ?_⟩; have n0_ := Aside0.mk (Kd.V_below (by (with_reducible repeat (first | apply Kd.V_alloc | apply Kd.V_drewN | apply Kd.V_drew)); exact HO_0.out) hb); have n1_ := Aside0.mk (Kd.R_below (by (with_reducible repeat (first | apply Kd.R_alloc | apply Kd.R_drewN | apply Kd.R_drew)); exact HO_6.out) hb); have n2_ := Aside0.mk (Kd.R_below (by (with_reducible repeat (first | apply Kd.R_alloc | apply Kd.R_drewN | apply Kd.R_drew)); exact HO_401002.out) hb); have n3_ := Aside0.mk (blk_below (g := gb400) (o := .cells #[.int .i64 t393, .int .i64 t394, .slice Ao13 t395.length co13, .bool t398] 27 (0, 0)) (by (with_reducible repeat (first | refine blk_drewN ?_ _ | refine blk_drew ?_ | refine blk_alloc ?_ _)); exact BK400.out) hb); have n4_ := Aside0.mk (blk_below (g := gb403) (o := .cells #[.int .i64 x404000_2, .int .i64 x404001_2, .bool x404002_2, .int .i64 x404003_2, .string x404004_2, .bool x404005_2, .int .i64 x404006_2, .string x404007_2] 38 (0, 0)) (by (with_reducible repeat (first | refine blk_drewN ?_ _ | refine blk_drew ?_ | refine blk_alloc ?_ _)); exact BK403.out) hb); have n5_ := Aside0.mk (below_step (by with_reducible repeat first | exact HB.out | apply below_alloc | apply pw_below_drewN | apply below_drew1 | refine below_set ?_ GE400.out | refine below_set ?_ GE403.out) hb); clear HO_0; clear HO_6; clear HO_401002; clear BK400; clear BK403; clear HB; have HO_0 := n0_; have HO_6 := n1_; have HO_401002 := n2_; have BK400 := n3_; have BK403 := n4_; have HB := n5_; clear n0_ n1_ n2_ n3_ n4_ n5_; (try clear hb); (try clear hb2); (try clear hk); (try clear hi)))
         go_ret
         exact ⟨by first | rfl | (simp [errW_none, errW_some] <;> rfl) | (simp [*, errW_none, errW_some] <;> rfl), by repeat (first | (with_reducible first | exact HB.out | apply below_alloc | apply pw_below_drewN | apply below_drew1 | refine below_set ?_ GE400.out | refine below_set ?_ GE403.out) | exact HB.out)⟩
 ·replace c3 := Bool.eq_false_iff.mpr c3
  subst c3
  have H1 : (some false) = some r := by rw [if_neg (show ¬ (false = true) by decide)] at H; exact H
  clear H
  have H := H1
  clear H1
  obtain rfl := Option.some.inj H
  go_enter Try.func5, Try.ntmps5
  go_wp2_with (first | ((with_reducible refine gate_callee (f := 8) rfl ?_); refine goesL_ (some 11) rfl rfl Try.func8 (by kernel_rfl) rfl #[] rfl (by (try simp only [List.map_toArray, List.map_cons, List.map_nil]); first | done | rfl | (simp only [List.length_drop, List.length_take]; rfl)) ?_; (with_reducible refine (tithebarnlaw17_lives_c.calls k  false _ (by first | exact A2.out | (have z_ := A2.out; (try rw [← Nbq43.out] at z_); (try rw [← Nbq46.out] at z_); exact z_))).mono ?_); rintro e w96 ⟨rfl, hb⟩; refine ⟨_, rfl, ?_⟩; have n0_ := Aside0.mk (below_step (by with_reducible repeat first | exact HB.out | apply below_alloc | apply pw_below_drewN | apply below_drew1) hb); clear HB; have HB := n0_; clear n0_; (try clear hb); (try clear hb2); (try clear hk); (try clear hi)))
  go_ret
  exact ⟨by first | rfl | (simp [errW_none, errW_some] <;> rfl) | (simp [*, errW_none, errW_some] <;> rfl), by repeat (first | (with_reducible first | exact HB.out | apply below_alloc | apply pw_below_drewN | apply below_drew1) | exact HB.out)⟩

end Go.Proofs.Ytcbgcmaioicdbaa.Pr
