-- printed by xprint.py
import Derived.Test.YtcbgcmaioicdbaaPr0
import Derived.Test.YtcbgcmaioicdbaaPrf10
import Derived.Test.YtcbgcmaioicdbaaPrf13
import Derived.Test.YtcbgcmaioicdbaaPrf15
namespace Go.Proofs.Ytcbgcmaioicdbaa.Pr
open Go.RowKit Go.Proofs.YtcbgcmaioicdbaaW PrintWords PrintLast PrintMore
set_option linter.unusedVariables false
set_option linter.unusedSimpArgs false

/-! ### tithebarnlaw17_lives: function 8 -/
def tithebarnlaw17_lives.f (k : Nat)  : Option (Bool) := (some (([(⟨1, 0, (⟨false, 0, (⟨#[]⟩ : ByteArray)⟩ : S36), (⟨false, 0, (⟨#[]⟩ : ByteArray)⟩ : S36)⟩ : S38), (⟨4, 0, (⟨false, 0, (⟨#[]⟩ : ByteArray)⟩ : S36), (⟨false, 0, (⟨#[]⟩ : ByteArray)⟩ : S36)⟩ : S38), (⟨2, 0, (⟨false, 0, (⟨#[]⟩ : ByteArray)⟩ : S36), (⟨false, 0, (⟨#[]⟩ : ByteArray)⟩ : S36)⟩ : S38), (⟨3, 0, (⟨false, 0, (⟨#[]⟩ : ByteArray)⟩ : S36), (⟨false, 0, (⟨#[]⟩ : ByteArray)⟩ : S36)⟩ : S38), (⟨9, 1, (⟨false, 1, (⟨#[]⟩ : ByteArray)⟩ : S36), (⟨false, 1, (⟨#[]⟩ : ByteArray)⟩ : S36)⟩ : S38)] : List (S38)) : List (S38))).bind fun y152 => ((levels_Pick.f y152).bind fun bt155 => (if bt155.2.2.2.2 = true then (if (bt155.2.2.1.length : Int) = 4 then (if 0 < (bt155.2.2.1.length : Int) then (if (rd bt155.2.2.1 0) = 4 then (if 3 < (bt155.2.2.1.length : Int) then (if (rd bt155.2.2.1 3) = 1 then (if bt155.2.1 = 1 then (if bt155.2.2.2.1 = true then ((levels_Disjoint.f k y152).bind fun t165 => (if t165 = true then ((levels_Calm.f y152).bind fun t166 => (some (!t166))) else (some false))) else (some false)) else (some false)) else (some false)) else (none)) else (some false)) else (none)) else (some false)) else (some false)))
theorem tithebarnlaw17_lives.mono : ∀ k, LeO (tithebarnlaw17_lives.f k ) (tithebarnlaw17_lives.f (k + 1) ) := by
 intro  k
 unfold tithebarnlaw17_lives.f
 repeat' first
   | (with_reducible exact levels_Disjoint.mono _ _)
   | (with_reducible exact LeO.refl _)
   | (with_reducible exact LeO.none _)
   | (with_reducible refine LeO.ite ?_ ?_)
   | (with_reducible refine LeO.bind ?_ (fun _ => ?_))
set_option maxHeartbeats 8000000 in
set_option maxRecDepth 100000 in
theorem tithebarnlaw17_lives.calls (k : Nat)  (r : Bool) (w : World) (h : tithebarnlaw17_lives.f k  = some r) (hT : r = true) :
  Calls Try.prog 8 #[] w fun e w' => e = .returned (.bool r) ∧ Below w.heap.size w w' := by
 have hu38 := Try.underlying38
 have hu36 := Try.underlying36
 have hu27 := Try.underlying27
 have HB := Aside0.mk (Below.refl w.heap.size w)
 have H : ((some (([(⟨1, 0, (⟨false, 0, (⟨#[]⟩ : ByteArray)⟩ : S36), (⟨false, 0, (⟨#[]⟩ : ByteArray)⟩ : S36)⟩ : S38), (⟨4, 0, (⟨false, 0, (⟨#[]⟩ : ByteArray)⟩ : S36), (⟨false, 0, (⟨#[]⟩ : ByteArray)⟩ : S36)⟩ : S38), (⟨2, 0, (⟨false, 0, (⟨#[]⟩ : ByteArray)⟩ : S36), (⟨false, 0, (⟨#[]⟩ : ByteArray)⟩ : S36)⟩ : S38), (⟨3, 0, (⟨false, 0, (⟨#[]⟩ : ByteArray)⟩ : S36), (⟨false, 0, (⟨#[]⟩ : ByteArray)⟩ : S36)⟩ : S38), (⟨9, 1, (⟨false, 1, (⟨#[]⟩ : ByteArray)⟩ : S36), (⟨false, 1, (⟨#[]⟩ : ByteArray)⟩ : S36)⟩ : S38)] : List (S38)) : List (S38))).bind fun y152 => ((levels_Pick.f y152).bind fun bt155 => (if bt155.2.2.2.2 = true then (if (bt155.2.2.1.length : Int) = 4 then (if 0 < (bt155.2.2.1.length : Int) then (if (rd bt155.2.2.1 0) = 4 then (if 3 < (bt155.2.2.1.length : Int) then (if (rd bt155.2.2.1 3) = 1 then (if bt155.2.1 = 1 then (if bt155.2.2.2.1 = true then ((levels_Disjoint.f k y152).bind fun t165 => (if t165 = true then ((levels_Calm.f y152).bind fun t166 => (some (!t166))) else (some false))) else (some false)) else (some false)) else (some false)) else (none)) else (some false)) else (none)) else (some false)) else (some false)))) = some r := h
 clear h
 obtain ⟨y152, hy152⟩ : ∃ y_ : List (S38), y_ = (([(⟨1, 0, (⟨false, 0, (⟨#[]⟩ : ByteArray)⟩ : S36), (⟨false, 0, (⟨#[]⟩ : ByteArray)⟩ : S36)⟩ : S38), (⟨4, 0, (⟨false, 0, (⟨#[]⟩ : ByteArray)⟩ : S36), (⟨false, 0, (⟨#[]⟩ : ByteArray)⟩ : S36)⟩ : S38), (⟨2, 0, (⟨false, 0, (⟨#[]⟩ : ByteArray)⟩ : S36), (⟨false, 0, (⟨#[]⟩ : ByteArray)⟩ : S36)⟩ : S38), (⟨3, 0, (⟨false, 0, (⟨#[]⟩ : ByteArray)⟩ : S36), (⟨false, 0, (⟨#[]⟩ : ByteArray)⟩ : S36)⟩ : S38), (⟨9, 1, (⟨false, 1, (⟨#[]⟩ : ByteArray)⟩ : S36), (⟨false, 1, (⟨#[]⟩ : ByteArray)⟩ : S36)⟩ : S38)] : List (S38))) := ⟨_, rfl⟩
 replace H : ((levels_Pick.f y152).bind fun bt155 => (if bt155.2.2.2.2 = true then (if (bt155.2.2.1.length : Int) = 4 then (if 0 < (bt155.2.2.1.length : Int) then (if (rd bt155.2.2.1 0) = 4 then (if 3 < (bt155.2.2.1.length : Int) then (if (rd bt155.2.2.1 3) = 1 then (if bt155.2.1 = 1 then (if bt155.2.2.2.1 = true then ((levels_Disjoint.f k y152).bind fun t165 => (if t165 = true then ((levels_Calm.f y152).bind fun t166 => (some (!t166))) else (some false))) else (some false)) else (some false)) else (some false)) else (none)) else (some false)) else (none)) else (some false)) else (some false))) = some r := by first | (rw [hy152]; with_reducible exact H) | (have H2_ := (Option.bind_some _ _).symm.trans H; rw [hy152]; with_reducible exact H2_) | (have H2_ := (Option.bind_some _ _).symm.trans H; with_reducible exact H2_) | with_reducible exact H | (rw [hy152]; exact H) | exact H
 have Ny152 := Aside0.mk hy152
 clear hy152
 replace H := Option.bind_eq_some_iff.mp H
 obtain ⟨⟨t155, t156, t157, t160, t161⟩, A10, H⟩ := H
 replace H : (if t161 = true then (if (t157.length : Int) = 4 then (if 0 < (t157.length : Int) then (if (rd t157 0) = 4 then (if 3 < (t157.length : Int) then (if (rd t157 3) = 1 then (if t156 = 1 then (if t160 = true then ((levels_Disjoint.f k y152).bind fun t165 => (if t165 = true then ((levels_Calm.f y152).bind fun t166 => (some (!t166))) else (some false))) else (some false)) else (some false)) else (some false)) else (none)) else (some false)) else (none)) else (some false)) else (some false)) = some r := H
 have A1 := Aside0.mk A10
 clear A10
 by_cases c2 : t161 = true
 ·subst c2
  have H1 : (if (t157.length : Int) = 4 then (if 0 < (t157.length : Int) then (if (rd t157 0) = 4 then (if 3 < (t157.length : Int) then (if (rd t157 3) = 1 then (if t156 = 1 then (if t160 = true then ((levels_Disjoint.f k y152).bind fun t165 => (if t165 = true then ((levels_Calm.f y152).bind fun t166 => (some (!t166))) else (some false))) else (some false)) else (some false)) else (some false)) else (none)) else (some false)) else (none)) else (some false)) = some r := by rw [if_pos rfl] at H; exact H
  clear H
  have H := H1
  clear H1
  by_cases c3 : (t157.length : Int) = 4
  ·rw [if_pos c3] at H
   have c3b0 : ((t157.length : Int) == 4) = true := beq_iff_eq.mpr c3
   have c3b1 : ((t157.length : Int) != 4) = false := bne_eq_false_iff_eq.mpr c3
   clear c3
   by_cases c4 : 0 < (t157.length : Int)
   ·rw [if_pos c4] at H
    have c4b0 : decide (0 < (t157.length : Int)) = true := decide_eq_true c4
    have c4b1 : decide (0 < t157.length) = true := decide_eq_true (by omega)
    clear c4
    by_cases c5 : (rd t157 0) = 4
    ·rw [if_pos c5] at H
     have c5b0 : ((rd t157 0) == 4) = true := beq_iff_eq.mpr c5
     have c5b1 : ((rd t157 0) != 4) = false := bne_eq_false_iff_eq.mpr c5
     clear c5
     by_cases c6 : 3 < (t157.length : Int)
     ·rw [if_pos c6] at H
      have c6b0 : decide (3 < (t157.length : Int)) = true := decide_eq_true c6
      have c6b1 : decide (3 < t157.length) = true := decide_eq_true (by omega)
      clear c6
      by_cases c7 : (rd t157 3) = 1
      ·rw [if_pos c7] at H
       have c7b0 : ((rd t157 3) == 1) = true := beq_iff_eq.mpr c7
       have c7b1 : ((rd t157 3) != 1) = false := bne_eq_false_iff_eq.mpr c7
       clear c7
       by_cases c8 : t156 = 1
       ·rw [if_pos c8] at H
        have c8b0 : (t156 == 1) = true := beq_iff_eq.mpr c8
        have c8b1 : (t156 != 1) = false := bne_eq_false_iff_eq.mpr c8
        clear c8
        by_cases c9 : t160 = true
        ·subst c9
         have H1 : ((levels_Disjoint.f k y152).bind fun t165 => (if t165 = true then ((levels_Calm.f y152).bind fun t166 => (some (!t166))) else (some false))) = some r := by rw [if_pos rfl] at H; exact H
         clear H
         have H := H1
         clear H1
         replace H := Option.bind_eq_some_iff.mp H
         obtain ⟨t165, A100, H⟩ := H
         replace H : (if t165 = true then ((levels_Calm.f y152).bind fun t166 => (some (!t166))) else (some false)) = some r := H
         have A10 := Aside0.mk A100
         clear A100
         by_cases c11 : t165 = true
         ·subst c11
          have H1 : ((levels_Calm.f y152).bind fun t166 => (some (!t166))) = some r := by rw [if_pos rfl] at H; exact H
          clear H
          have H := H1
          clear H1
          replace H := Option.bind_eq_some_iff.mp H
          obtain ⟨t166, A120, H⟩ := H
          replace H : (some (!t166)) = some r := H
          have A12 := Aside0.mk A120
          clear A120
          replace H := Option.some.inj H
          subst H
          go_enter Try.func8, Try.ntmps8
          go_wp2_with (first | ((with_reducible refine gate_dst (N := 11) rfl ?_); (try (refine gate_guard (by rfl) ?_; dsimp only)); refine Kd.R_lit k38 _ 38 ?hg (N := 11) ?hd (xs := ([(⟨1, 0, (⟨false, 0, (⟨#[]⟩ : ByteArray)⟩ : S36), (⟨false, 0, (⟨#[]⟩ : ByteArray)⟩ : S36)⟩ : S38), (⟨4, 0, (⟨false, 0, (⟨#[]⟩ : ByteArray)⟩ : S36), (⟨false, 0, (⟨#[]⟩ : ByteArray)⟩ : S36)⟩ : S38), (⟨2, 0, (⟨false, 0, (⟨#[]⟩ : ByteArray)⟩ : S36), (⟨false, 0, (⟨#[]⟩ : ByteArray)⟩ : S36)⟩ : S38), (⟨3, 0, (⟨false, 0, (⟨#[]⟩ : ByteArray)⟩ : S36), (⟨false, 0, (⟨#[]⟩ : ByteArray)⟩ : S36)⟩ : S38), (⟨9, 1, (⟨false, 1, (⟨#[]⟩ : ByteArray)⟩ : S36), (⟨false, 1, (⟨#[]⟩ : ByteArray)⟩ : S36)⟩ : S38)] : List (S38))) (inner := [.int .i64 1, .int .i64 0, .bool false, .int .i64 0, .string (⟨#[]⟩ : ByteArray), .bool false, .int .i64 0, .string (⟨#[]⟩ : ByteArray), .int .i64 4, .int .i64 0, .bool false, .int .i64 0, .string (⟨#[]⟩ : ByteArray), .bool false, .int .i64 0, .string (⟨#[]⟩ : ByteArray), .int .i64 2, .int .i64 0, .bool false, .int .i64 0, .string (⟨#[]⟩ : ByteArray), .bool false, .int .i64 0, .string (⟨#[]⟩ : ByteArray), .int .i64 3, .int .i64 0, .bool false, .int .i64 0, .string (⟨#[]⟩ : ByteArray), .bool false, .int .i64 0, .string (⟨#[]⟩ : ByteArray), .int .i64 9, .int .i64 1, .bool false, .int .i64 1, .string (⟨#[]⟩ : ByteArray), .bool false, .int .i64 1, .string (⟨#[]⟩ : ByteArray)]) (ok := fun _ => True) (okp := fun _ => True) ?hr ?hp (fun _ hk => hk) trivial (Below.refl _ _) (Nat.le_refl _) (by simp) ?_; (case hd => rfl); (case hg => rfl); (case hr => first | (go_simp; done) | (go_simp; rfl)); (case hp => exact (Reps.c8 (show Kd.M k38 _ _ _ (⟨1, 0, (⟨false, 0, (⟨#[]⟩ : ByteArray)⟩ : S36), (⟨false, 0, (⟨#[]⟩ : ByteArray)⟩ : S36)⟩ : S38) [.int .i64 1, .int .i64 0, .bool false, .int .i64 0, .string (⟨#[]⟩ : ByteArray), .bool false, .int .i64 0, .string (⟨#[]⟩ : ByteArray)] from (k38_mkM _ _ _ (⟨1, 0, (⟨false, 0, (⟨#[]⟩ : ByteArray)⟩ : S36), (⟨false, 0, (⟨#[]⟩ : ByteArray)⟩ : S36)⟩ : S38) )) (Reps.c8 (show Kd.M k38 _ _ _ (⟨4, 0, (⟨false, 0, (⟨#[]⟩ : ByteArray)⟩ : S36), (⟨false, 0, (⟨#[]⟩ : ByteArray)⟩ : S36)⟩ : S38) [.int .i64 4, .int .i64 0, .bool false, .int .i64 0, .string (⟨#[]⟩ : ByteArray), .bool false, .int .i64 0, .string (⟨#[]⟩ : ByteArray)] from (k38_mkM _ _ _ (⟨4, 0, (⟨false, 0, (⟨#[]⟩ : ByteArray)⟩ : S36), (⟨false, 0, (⟨#[]⟩ : ByteArray)⟩ : S36)⟩ : S38) )) (Reps.c8 (show Kd.M k38 _ _ _ (⟨2, 0, (⟨false, 0, (⟨#[]⟩ : ByteArray)⟩ : S36), (⟨false, 0, (⟨#[]⟩ : ByteArray)⟩ : S36)⟩ : S38) [.int .i64 2, .int .i64 0, .bool false, .int .i64 0, .string (⟨#[]⟩ : ByteArray), .bool false, .int .i64 0, .string (⟨#[]⟩ : ByteArray)] from (k38_mkM _ _ _ (⟨2, 0, (⟨false, 0, (⟨#[]⟩ : ByteArray)⟩ : S36), (⟨false, 0, (⟨#[]⟩ : ByteArray)⟩ : S36)⟩ : S38) )) (Reps.c8 (show Kd.M k38 _ _ _ (⟨3, 0, (⟨false, 0, (⟨#[]⟩ : ByteArray)⟩ : S36), (⟨false, 0, (⟨#[]⟩ : ByteArray)⟩ : S36)⟩ : S38) [.int .i64 3, .int .i64 0, .bool false, .int .i64 0, .string (⟨#[]⟩ : ByteArray), .bool false, .int .i64 0, .string (⟨#[]⟩ : ByteArray)] from (k38_mkM _ _ _ (⟨3, 0, (⟨false, 0, (⟨#[]⟩ : ByteArray)⟩ : S36), (⟨false, 0, (⟨#[]⟩ : ByteArray)⟩ : S36)⟩ : S38) )) (Reps.c8 (show Kd.M k38 _ _ _ (⟨9, 1, (⟨false, 1, (⟨#[]⟩ : ByteArray)⟩ : S36), (⟨false, 1, (⟨#[]⟩ : ByteArray)⟩ : S36)⟩ : S38) [.int .i64 9, .int .i64 1, .bool false, .int .i64 1, .string (⟨#[]⟩ : ByteArray), .bool false, .int .i64 1, .string (⟨#[]⟩ : ByteArray)] from (k38_mkM _ _ _ (⟨9, 1, (⟨false, 1, (⟨#[]⟩ : ByteArray)⟩ : S36), (⟨false, 1, (⟨#[]⟩ : ByteArray)⟩ : S36)⟩ : S38) )) (Reps.none _ _))))))); intro v153 w13 ho14 hb hg_ hnew_; clear hg_ hnew_; (first | rw [← Ny152.out] at ho14 | (simp only [Int.reduceToNat] at ho14; rw [← Ny152.out] at ho14)); have n0_ := Aside0.mk (Kd.R_lower ho14 (below_size (by with_reducible repeat first | exact HB.out | apply below_alloc | apply pw_below_drewN | apply below_drew1))); have n1_ := Aside0.mk (below_step (by with_reducible repeat first | exact HB.out | apply below_alloc | apply pw_below_drewN | apply below_drew1) hb); clear HB; have HO154 := n0_; have HB := n1_; clear n0_ n1_; clear hb ho14; obtain ⟨Ao15, co15, eo15⟩ := Kd.R_slice HO154.out; subst eo15) | ((with_reducible refine gate_callee (f := 10) rfl ?_); refine goesL_ (some 14) rfl rfl Try.func10 (by kernel_rfl) rfl #[.slice Ao15 y152.length co15] rfl (by (try simp only [List.map_toArray, List.map_cons, List.map_nil]); first | done | rfl | (simp only [List.length_drop, List.length_take]; rfl)) ?_; (with_reducible refine (levels_Pick.calls _ _ y152 t155 t156 t157 true true _ ?side1 ?side2 A1.out).mono ?_); (case side1 => repeat (first | exact (Kd.R_reads' HO154.out).2.2 | (with_reducible refine Kd.C_alloc ?_ _) | (with_reducible refine Kd.C_drewN ?_ _) | (with_reducible refine Kd.C_drew ?_))); (case side2 => exact (Kd.R_reads' HO154.out).2.1); rintro e w16 ⟨v158, rfl, ho0, hb⟩; refine ⟨_, rfl, ?_⟩; have n0_ := Aside0.mk (Kd.R_below (by (with_reducible repeat (first | apply Kd.R_alloc | apply Kd.R_drewN | apply Kd.R_drew)); exact HO154.out) hb); have n1_ := Aside0.mk (Kd.R_lower ho0 (below_size (by with_reducible repeat first | exact HB.out | apply below_alloc | apply pw_below_drewN | apply below_drew1))); have n2_ := Aside0.mk (below_step (by with_reducible repeat first | exact HB.out | apply below_alloc | apply pw_below_drewN | apply below_drew1) hb); clear HO154; clear HB; have HO154 := n0_; have HO159 := n1_; have HB := n2_; clear n0_ n1_ n2_; (try clear hb); (try clear hb2); (try clear hk); (try clear hi); (try clear ho0)) | ((with_reducible refine gate_dst (N := 2) rfl ?_); (try (refine gate_guard (by rfl) ?_; dsimp only)); refine box_event ?hg (N := 2) ?hd (cs := #[.int .i64 0, .int .i64 0, .slice none 0 0, .bool false]) (t := 27) ?hr ?_; (case hd => rfl); (case hg => rfl); (case hr => first | (go_simp; done) | (go_simp; rfl)); intro gb162 hg w17 hbox hb; have n0_ := Aside0.mk (Kd.R_below (by (with_reducible repeat (first | apply Kd.R_alloc | apply Kd.R_drewN | apply Kd.R_drew)); exact HO154.out) hb); have n1_ := Aside0.mk (Kd.R_below (by (with_reducible repeat (first | apply Kd.R_alloc | apply Kd.R_drewN | apply Kd.R_drew)); exact HO159.out) hb); have n2_ := Aside0.mk (below_step (by with_reducible repeat first | exact HB.out | apply below_alloc | apply pw_below_drewN | apply below_drew1) hb); have n3_ := Aside0.mk (hbox); have n4_ := Aside0.mk ((by rw [hg]; exact (below_size (by with_reducible repeat first | exact HB.out | apply below_alloc | apply pw_below_drewN | apply below_drew1)) : w.heap.size ≤ gb162)); have n5_ := Aside0.mk ((by rw [hg]; exact (below_size (by with_reducible repeat first | exact HB.out | apply below_alloc | apply pw_below_drewN | apply below_drew1)) : w.heap.size ≤ gb162)); clear HO154; clear HO159; clear HB; have HO154 := n0_; have HO159 := n1_; have HB := n2_; have BK162 := n3_; have GW162 := n4_; have GE162 := n5_; clear n0_ n1_ n2_ n3_ n4_ n5_; clear hb hbox hg; obtain ⟨hcz18_0, hcz18_1, hcz18_2, hcz18_3⟩ := bc4 BK162.out; obtain ⟨hfz18_0, hfz18_1, hfz18_2, hfz18_3⟩ := bf4 BK162.out; obtain ⟨Ao19, co19, eo19⟩ := Kd.R_slice HO159.out; subst eo19; have p163 : 0 ≤ (0 : Int) := (by omega); have q163 : 0 < (t157.length : Int) := of_decide_eq_true (by with_reducible assumption); obtain ⟨ad163, e163, hx163_0⟩ := Kd.at_int (Kd.R_reads' HO159.out).2.2 0 p163 q163; cases e163; have qi163 : (0 < t157.length) = True := eq_true (by omega); (try rw [show ((0 : Int)).toNat = 0 from rfl] at hx163_0); (try rw [Addr.add_zero'] at hx163_0); have hn163_0 : ad163.block ≠ gb162 := Kd.own_blk (Kd.R_ne HO159.out BK162.out (by decide)); have hn163_1 : ad163.block ≠ gb162 := Kd.own_blk (Kd.R_ne HO159.out BK162.out (by decide)); have hn163_2 : ad163.block ≠ gb162 := Kd.own_blk (Kd.R_ne HO159.out BK162.out (by decide)); have hn163_3 : ad163.block ≠ gb162 := Kd.own_blk (Kd.R_ne HO159.out BK162.out (by decide)); replace hx163_0 := (cell_far (p := ⟨gb162, 0, none⟩) (by first | (rw [add_block]; exact hn163_0) | (show (Addr.add _ _).block ≠ _; rw [add_block]; exact hn163_0) | exact hn163_0) (.int .i64 t155)).trans hx163_0; replace hx163_0 := (cell_far (p := ⟨gb162, 1, none⟩) (by first | (rw [add_block]; exact hn163_1) | (show (Addr.add _ _).block ≠ _; rw [add_block]; exact hn163_1) | exact hn163_1) (.int .i64 t156)).trans hx163_0; replace hx163_0 := (cell_far (p := ⟨gb162, 2, none⟩) (by first | (rw [add_block]; exact hn163_2) | (show (Addr.add _ _).block ≠ _; rw [add_block]; exact hn163_2) | exact hn163_2) (.slice (some ad163) t157.length co19)).trans hx163_0; replace hx163_0 := (cell_far (p := ⟨gb162, 3, none⟩) (by first | (rw [add_block]; exact hn163_3) | (show (Addr.add _ _).block ≠ _; rw [add_block]; exact hn163_3) | exact hn163_3) (.bool true)).trans hx163_0; clear hn163_0; clear hn163_1; clear hn163_2; clear hn163_3; replace p163 := eq_true p163; replace q163 := eq_true q163; have p164 : 0 ≤ (3 : Int) := (by omega); have q164 : 3 < (t157.length : Int) := of_decide_eq_true (by with_reducible assumption); obtain ⟨ad164, e164, hx164_0⟩ := Kd.at_int (Kd.R_reads' HO159.out).2.2 3 p164 q164; obtain rfl : ad163 = ad164 := (by injection e164); (try simp only [show (3 : Int).toNat = 3 from rfl, Nat.reduceMul, Nat.reduceEqDiff, Go.Addr.add, ↓reduceIte] at hx164_0); have qi164 : (3 < t157.length) = True := eq_true (by omega); (try rw [show ((3 : Int)).toNat = 3 from rfl] at hx164_0); have hn164_0 : ad163.block ≠ gb162 := Kd.own_blk (Kd.R_ne HO159.out BK162.out (by decide)); have hn164_1 : ad163.block ≠ gb162 := Kd.own_blk (Kd.R_ne HO159.out BK162.out (by decide)); have hn164_2 : ad163.block ≠ gb162 := Kd.own_blk (Kd.R_ne HO159.out BK162.out (by decide)); have hn164_3 : ad163.block ≠ gb162 := Kd.own_blk (Kd.R_ne HO159.out BK162.out (by decide)); replace hx164_0 := (cell_far (p := ⟨gb162, 0, none⟩) (by first | (rw [add_block]; exact hn164_0) | (show (Addr.add _ _).block ≠ _; rw [add_block]; exact hn164_0) | exact hn164_0) (.int .i64 t155)).trans hx164_0; replace hx164_0 := (cell_far (p := ⟨gb162, 1, none⟩) (by first | (rw [add_block]; exact hn164_1) | (show (Addr.add _ _).block ≠ _; rw [add_block]; exact hn164_1) | exact hn164_1) (.int .i64 t156)).trans hx164_0; replace hx164_0 := (cell_far (p := ⟨gb162, 2, none⟩) (by first | (rw [add_block]; exact hn164_2) | (show (Addr.add _ _).block ≠ _; rw [add_block]; exact hn164_2) | exact hn164_2) (.slice (some ad163) t157.length co19)).trans hx164_0; replace hx164_0 := (cell_far (p := ⟨gb162, 3, none⟩) (by first | (rw [add_block]; exact hn164_3) | (show (Addr.add _ _).block ≠ _; rw [add_block]; exact hn164_3) | exact hn164_3) (.bool true)).trans hx164_0; clear hn164_0; clear hn164_1; clear hn164_2; clear hn164_3; replace p164 := eq_true p164; replace q164 := eq_true q164) | (go_at_call 13; (with_reducible refine (levels_Disjoint.calls k _ _ y152 true _ ?side1 ?side2 A10.out).mono ?_); (case side1 => refine (Kd.R_reads' (e := 38) (base := w.heap.size) (ok := fun k_ => True) (n := y152.length) (c := co15) ?_).2.2; exact (by (with_reducible repeat (first | apply Kd.R_alloc | apply Kd.R_drewN | apply Kd.R_drew)); exact (Kd.R_mono (Kd.R_far (p := ⟨gb162, 3, none⟩) (Kd.R_far (p := ⟨gb162, 2, none⟩) (Kd.R_far (p := ⟨gb162, 1, none⟩) (Kd.R_far (p := ⟨gb162, 0, none⟩) (Kd.R_types HO154.out BK162.out (by decide)) (fun _ hk => hk.2) (.int .i64 t155)) (fun _ hk => hk.2) (.int .i64 t156)) (fun _ hk => hk.2) (.slice (some ad163) t157.length co19)) (fun _ hk => hk.2) (.bool true)) (fun _ h_ => h_.1)))); (case side2 => exact (Kd.R_reads' HO154.out).2.1); rintro e w20 ⟨rfl, hb⟩; have n0_ := Aside0.mk (Kd.R_below (by (with_reducible repeat (first | apply Kd.R_alloc | apply Kd.R_drewN | apply Kd.R_drew)); exact (Kd.R_mono (Kd.R_far (p := ⟨gb162, 3, none⟩) (Kd.R_far (p := ⟨gb162, 2, none⟩) (Kd.R_far (p := ⟨gb162, 1, none⟩) (Kd.R_far (p := ⟨gb162, 0, none⟩) (Kd.R_types HO154.out BK162.out (by decide)) (fun _ hk => hk.2) (.int .i64 t155)) (fun _ hk => hk.2) (.int .i64 t156)) (fun _ hk => hk.2) (.slice (some ad163) t157.length co19)) (fun _ hk => hk.2) (.bool true)) (fun _ h_ => h_.1))) hb); have n1_ := Aside0.mk (Kd.R_below (by (with_reducible repeat (first | apply Kd.R_alloc | apply Kd.R_drewN | apply Kd.R_drew)); exact (Kd.R_mono (Kd.R_far (p := ⟨gb162, 3, none⟩) (Kd.R_far (p := ⟨gb162, 2, none⟩) (Kd.R_far (p := ⟨gb162, 1, none⟩) (Kd.R_far (p := ⟨gb162, 0, none⟩) (Kd.R_types HO159.out BK162.out (by decide)) (fun _ hk => hk.2) (.int .i64 t155)) (fun _ hk => hk.2) (.int .i64 t156)) (fun _ hk => hk.2) (.slice (some ad163) t157.length co19)) (fun _ hk => hk.2) (.bool true)) (fun _ h_ => h_.1))) hb); have n2_ := Aside0.mk (blk_below (g := gb162) (o := .cells #[.int .i64 t155, .int .i64 t156, .slice (some ad163) t157.length co19, .bool true] 27 (0, 0)) (by refine blk_put (cs := #[.int .i64 t155, .int .i64 t156, .slice (some ad163) t157.length co19, .bool false]) ?_ 3 _ rfl; refine blk_put (cs := #[.int .i64 t155, .int .i64 t156, .slice none 0 0, .bool false]) ?_ 2 _ rfl; refine blk_put (cs := #[.int .i64 t155, .int .i64 0, .slice none 0 0, .bool false]) ?_ 1 _ rfl; refine blk_put (cs := #[.int .i64 0, .int .i64 0, .slice none 0 0, .bool false]) ?_ 0 _ rfl; (with_reducible repeat (first | refine blk_drewN ?_ _ | refine blk_drew ?_ | refine blk_alloc ?_ _)); exact BK162.out) hb); have n3_ := Aside0.mk (below_step (by with_reducible repeat first | exact HB.out | apply below_alloc | apply pw_below_drewN | apply below_drew1 | refine below_set ?_ GE162.out) hb); clear HO154; clear HO159; clear BK162; clear HB; have HO154 := n0_; have HO159 := n1_; have BK162 := n2_; have HB := n3_; clear n0_ n1_ n2_ n3_; (try clear hb); (try clear hb2); (try clear hk); (try clear hi)) | (go_at_call 15; (with_reducible refine (levels_Calm.calls _ _ y152 t166 _ ?side1 ?side2 A12.out).mono ?_); (case side1 => repeat (first | exact (Kd.R_reads' HO154.out).2.2 | (with_reducible refine Kd.C_alloc ?_ _) | (with_reducible refine Kd.C_drewN ?_ _) | (with_reducible refine Kd.C_drew ?_))); (case side2 => exact (Kd.R_reads' HO154.out).2.1); rintro e w21 ⟨rfl, hb⟩; have n0_ := Aside0.mk (Kd.R_below (by (with_reducible repeat (first | apply Kd.R_alloc | apply Kd.R_drewN | apply Kd.R_drew)); exact HO154.out) hb); have n1_ := Aside0.mk (Kd.R_below (by (with_reducible repeat (first | apply Kd.R_alloc | apply Kd.R_drewN | apply Kd.R_drew)); exact HO159.out) hb); have n2_ := Aside0.mk (blk_below (g := gb162) (o := .cells #[.int .i64 t155, .int .i64 t156, .slice (some ad163) t157.length co19, .bool true] 27 (0, 0)) (by (with_reducible repeat (first | refine blk_drewN ?_ _ | refine blk_drew ?_ | refine blk_alloc ?_ _)); exact BK162.out) hb); have n3_ := Aside0.mk (below_step (by with_reducible repeat first | exact HB.out | apply below_alloc | apply pw_below_drewN | apply below_drew1 | refine below_set ?_ GE162.out) hb); clear HO154; clear HO159; clear BK162; clear HB; have HO154 := n0_; have HO159 := n1_; have BK162 := n2_; have HB := n3_; clear n0_ n1_ n2_ n3_; (try clear hb); (try clear hb2); (try clear hk); (try clear hi)))
          go_ret
          exact ⟨by first | rfl | (simp [errW_none, errW_some] <;> rfl) | (simp [*, errW_none, errW_some] <;> rfl), by repeat (first | (with_reducible first | exact HB.out | apply below_alloc | apply pw_below_drewN | apply below_drew1 | refine below_set ?_ GE162.out) | exact HB.out)⟩
         ·replace c11 := Bool.eq_false_iff.mpr c11
          subst c11
          have H1 : (some false) = some r := by rw [if_neg (show ¬ (false = true) by decide)] at H; exact H
          clear H
          have H := H1
          clear H1
          exact absurd ((Option.some.inj H).trans hT) Bool.false_ne_true
        ·replace c9 := Bool.eq_false_iff.mpr c9
         subst c9
         have H1 : (some false) = some r := by rw [if_neg (show ¬ (false = true) by decide)] at H; exact H
         clear H
         have H := H1
         clear H1
         exact absurd ((Option.some.inj H).trans hT) Bool.false_ne_true
       ·rw [if_neg c8] at H
        have c8b0 : (t156 == 1) = false := beq_eq_false_iff_ne.mpr c8
        have c8b1 : (t156 != 1) = true := bne_iff_ne.mpr c8
        exact absurd ((Option.some.inj H).trans hT) Bool.false_ne_true
      ·rw [if_neg c7] at H
       have c7b0 : ((rd t157 3) == 1) = false := beq_eq_false_iff_ne.mpr c7
       have c7b1 : ((rd t157 3) != 1) = true := bne_iff_ne.mpr c7
       exact absurd ((Option.some.inj H).trans hT) Bool.false_ne_true
     ·rw [if_neg c6] at H
      exact absurd H (by simp)
    ·rw [if_neg c5] at H
     have c5b0 : ((rd t157 0) == 4) = false := beq_eq_false_iff_ne.mpr c5
     have c5b1 : ((rd t157 0) != 4) = true := bne_iff_ne.mpr c5
     exact absurd ((Option.some.inj H).trans hT) Bool.false_ne_true
   ·rw [if_neg c4] at H
    exact absurd H (by simp)
  ·rw [if_neg c3] at H
   have c3b0 : ((t157.length : Int) == 4) = false := beq_eq_false_iff_ne.mpr c3
   have c3b1 : ((t157.length : Int) != 4) = true := bne_iff_ne.mpr c3
   exact absurd ((Option.some.inj H).trans hT) Bool.false_ne_true
 ·replace c2 := Bool.eq_false_iff.mpr c2
  subst c2
  have H1 : (some false) = some r := by rw [if_neg (show ¬ (false = true) by decide)] at H; exact H
  clear H
  have H := H1
  clear H1
  exact absurd ((Option.some.inj H).trans hT) Bool.false_ne_true
/-! ### tithebarnlaw17_lives_c: function 8 -/
def tithebarnlaw17_lives_c.f (k : Nat) : Option Bool := match tithebarnlaw17_lives.f k with | some true => some true | _ => none
theorem tithebarnlaw17_lives_c.of {k : Nat} {r : Bool} (h : tithebarnlaw17_lives_c.f k = some r) : tithebarnlaw17_lives.f k = some true ∧ r = true := by
  unfold tithebarnlaw17_lives_c.f at h
  split at h
  · rename_i e; cases h; exact ⟨e, rfl⟩
  · cases h
theorem tithebarnlaw17_lives_c.is {k : Nat} (h : tithebarnlaw17_lives.f k = some true) : tithebarnlaw17_lives_c.f k = some true := by
  unfold tithebarnlaw17_lives_c.f; rw [h]
theorem tithebarnlaw17_lives_c.mono (k : Nat) : LeO (tithebarnlaw17_lives_c.f k) (tithebarnlaw17_lives_c.f (k + 1)) := fun r h => by
  obtain ⟨h1, rfl⟩ := tithebarnlaw17_lives_c.of h
  exact tithebarnlaw17_lives_c.is (tithebarnlaw17_lives.mono k true h1)
theorem tithebarnlaw17_lives_c.calls (k : Nat) (r : Bool) (w : World) (h : tithebarnlaw17_lives_c.f k = some r) :
    Calls Try.prog 8 #[] w fun e w' => e = .returned (.bool r) ∧ Below w.heap.size w w' := by
  obtain ⟨h1, rfl⟩ := tithebarnlaw17_lives_c.of h
  exact tithebarnlaw17_lives.calls k true w h1 rfl


end Go.Proofs.Ytcbgcmaioicdbaa.Pr
