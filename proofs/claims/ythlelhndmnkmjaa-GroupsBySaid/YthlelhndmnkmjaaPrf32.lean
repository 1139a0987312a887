-- printed by xprint.py
import Derived.Test.YthlelhndmnkmjaaPr0
import Derived.Test.YthlelhndmnkmjaaPrf60
import Derived.Test.YthlelhndmnkmjaaPrf62
import Derived.Test.YthlelhndmnkmjaaPrf63
namespace Go.Proofs.Ythlelhndmnkmjaa.Pr
open Go.RowKit Go.Proofs.YthlelhndmnkmjaaW PrintWords PrintLast PrintMore
set_option linter.unusedVariables false
set_option linter.unusedSimpArgs false

/-! ### sums_Fold: function 32 -/
def sums_Fold.l0 : Nat → Int → List (List (S37)) → Int → Int → Int → Int → Int → Bool → Int → ByteArray → Bool → Int → ByteArray → Option (Int × Int × Int × Bool × Int × ByteArray × Bool × Int × ByteArray × Int)
 | 0, _, _, _, _, _, _, _, _, _, _, _, _, _ => none
 | k + 1, x1, x9, x10, x11, x135000, x135001, x135002, x135003, x135004, x135005, x135006, x135007, x135008 => if x11 < x10 then (if 0 ≤ x11 then (if x11 < (x9.length : Int) then ((sums_none.f (rd_L7 x9 x11) x1).bind fun t136 => (if t136 = true then (some (0, 0, 0, false, 0, (⟨#[]⟩ : ByteArray), false, 0, (⟨#[]⟩ : ByteArray), 7)) else (if 0 ≤ x1 then (if x1 < ((rd_L7 x9 x11).length : Int) then ((sums_one.f ((rd_T37 (rd_L7 x9 x11) x1).f0) ((rd_T37 (rd_L7 x9 x11) x1).f1) ((rd_T37 (rd_L7 x9 x11) x1).f2)).bind fun bt138 => ((sums_Join_c.f x135000 x135001 x135002 x135003 x135004 x135005 x135006 x135007 x135008 bt138.1 bt138.2.1 bt138.2.2.1 bt138.2.2.2.1 bt138.2.2.2.2.1 bt138.2.2.2.2.2.1 bt138.2.2.2.2.2.2.1 bt138.2.2.2.2.2.2.2.1 bt138.2.2.2.2.2.2.2.2).bind fun bt147 => (sums_Fold.l0 k x1 x9 x10 (wrap64 (x11 + 1)) bt147.1 bt147.2.1 bt147.2.2.1 bt147.2.2.2.1 bt147.2.2.2.2.1 bt147.2.2.2.2.2.1 bt147.2.2.2.2.2.2.1 bt147.2.2.2.2.2.2.2.1 bt147.2.2.2.2.2.2.2.2))) else (none)) else (none)))) else (none)) else (none)) else (some (x135000, x135001, x135002, x135003, x135004, x135005, x135006, x135007, x135008, 0))
def sums_Fold.f (k : Nat) (l0 : List (List (S37))) (a1 : Int) : Option (Int × Int × Int × Bool × Int × ByteArray × Bool × Int × ByteArray × Int) := sums_Fold.l0 k a1 l0 (l0.length : Int) 0 0 0 0 false 0 (⟨#[]⟩ : ByteArray) false 0 (⟨#[]⟩ : ByteArray)
theorem sums_Fold.mono_l : ∀ k, (∀ y0 y1 y2 y3 y4 y5 y6 y7 y8 y9 y10 y11 y12, LeO (sums_Fold.l0 k y0 y1 y2 y3 y4 y5 y6 y7 y8 y9 y10 y11 y12) (sums_Fold.l0 (k + 1) y0 y1 y2 y3 y4 y5 y6 y7 y8 y9 y10 y11 y12))
 | 0 => fun _ _ _ _ _ _ _ _ _ _ _ _ _ r h => by simp [sums_Fold.l0] at h
 | k + 1 => by
  have ih0 := sums_Fold.mono_l k
  ·intro y0 y1 y2 y3 y4 y5 y6 y7 y8 y9 y10 y11 y12
   unfold sums_Fold.l0
   repeat' first
   | (with_reducible exact ih0 _ _ _ _ _ _ _ _ _ _ _ _ _)
   | (with_reducible exact LeO.refl _)
   | (with_reducible exact LeO.none _)
   | (with_reducible refine LeO.ite ?_ ?_)
   | (with_reducible refine LeO.bind ?_ (fun _ => ?_))
theorem sums_Fold.mono : ∀ a0 a1 k, LeO (sums_Fold.f k a0 a1) (sums_Fold.f (k + 1) a0 a1) := by
 intro a0 a1 k
 have ih0 := sums_Fold.mono_l k
 unfold sums_Fold.f
 repeat' first
   | (with_reducible exact ih0 _ _ _ _ _ _ _ _ _ _ _ _ _)
   | (with_reducible exact LeO.refl _)
   | (with_reducible exact LeO.none _)
   | (with_reducible refine LeO.ite ?_ ?_)
   | (with_reducible refine LeO.bind ?_ (fun _ => ?_))
def sums_Fold.T7 : Bool × List (List Nat × List Nat) := (true, [([], []), ([], []), ([], []), ([1, 2], [1, 2]), ([3], [3]), ([4], [4]), ([0, 5, 5], [0, 5]), ([6, 6, 0, 1, 2, 3, 4, 5, 6], [6])])
def sums_Fold.B7 : List Nat := [0, 0, 0, 6, 14, 30, 63, 127]
theorem sums_Fold.tab7 : rtab .any (opsOf Try.f32 7) = sums_Fold.T7 := by kernel_rfl
theorem sums_Fold.bits7 : waitsOk sums_Fold.T7.2 sums_Fold.B7 = true := by kernel_rfl
set_option maxHeartbeats 8000000 in
set_option maxRecDepth 100000 in
theorem sums_Fold.calls (k : Nat) (A0 : Option Addr) (c0 : Nat) (l0 : List (List (S37))) (a1 : Int) (r1 : Int) (r2 : Int) (r3 : Int) (r4 : Bool) (r5 : Int) (r6 : ByteArray) (r7 : Bool) (r8 : Int) (r9 : ByteArray) (r10 : Int) (w : World) (hr0 : Kd.C (Kd.slice 37 k37) w A0 l0.length l0) (hc0 : l0.length ≤ c0) (h : sums_Fold.f k l0 a1 = some (r1, r2, r3, r4, r5, r6, r7, r8, r9, r10)) :
  Calls Try.prog 32 #[.slice A0 l0.length c0, .int .i64 a1] w fun e w' => e = .returned (.tuple #[.agg #[.int .i64 r1, .int .i64 r2, .int .i64 r3, .bool r4, .int .i64 r5, .string r6, .bool r7, .int .i64 r8, .string r9], .int .i64 r10]) ∧ Below w.heap.size w w' := by
 have hu47 := Try.underlying47
 have hu37 := Try.underlying37
 have HR0 := Aside0.mk hr0
 have HC0 := Aside0.mk hc0
 clear hr0 hc0
 have HB := Aside0.mk (Below.refl w.heap.size w)
 have H : (sums_Fold.l0 k a1 l0 (l0.length : Int) 0 0 0 0 false 0 (⟨#[]⟩ : ByteArray) false 0 (⟨#[]⟩ : ByteArray)) = some (r1, r2, r3, r4, r5, r6, r7, r8, r9, r10) := h
 clear h
 have H' := Aside0.mk H
 clear H
 go_enter Try.func32, Try.ntmps32
 go_wp2_with (first | ((with_reducible refine gate_dst (N := 4) rfl ?_); refine box_event ?hg (N := 4) ?hd (cs := #[.int .i64 0, .int .i64 0, .int .i64 0, .bool false, .int .i64 0, .string (⟨#[]⟩ : ByteArray), .bool false, .int .i64 0, .string (⟨#[]⟩ : ByteArray)]) (t := 47) ?hr ?_; (case hd => rfl); (case hg => rfl); (case hr => first | (go_simp; done) | (go_simp; rfl)); intro gb133 hg w3 hbox hb; have n0_ := Aside0.mk (below_step (by with_reducible repeat first | exact HB.out | apply below_alloc | apply pw_below_drewN | apply below_drew1) hb); have n1_ := Aside0.mk (hbox); have n2_ := Aside0.mk ((by rw [hg]; exact (below_size (by with_reducible repeat first | exact HB.out | apply below_alloc | apply pw_below_drewN | apply below_drew1)) : w.heap.size ≤ gb133)); have n3_ := Aside0.mk ((by rw [hg]; exact (below_size (by with_reducible repeat first | exact HB.out | apply below_alloc | apply pw_below_drewN | apply below_drew1)) : w.heap.size ≤ gb133)); clear HB; have HB := n0_; have BK133 := n1_; have GW133 := n2_; have GE133 := n3_; clear n0_ n1_ n2_ n3_; clear hb hbox hg) | ((with_reducible refine gate_dst (N := 6) rfl ?_); refine box_event ?hg (N := 6) ?hd (cs := #[.int .i64 0, .int .i64 0, .int .i64 0, .bool false, .int .i64 0, .string (⟨#[]⟩ : ByteArray), .bool false, .int .i64 0, .string (⟨#[]⟩ : ByteArray)]) (t := 47) ?hr ?_; (case hd => rfl); (case hg => rfl); (case hr => first | (go_simp; done) | (go_simp; rfl)); intro gb134 hg w4 hbox hb; have n0_ := Aside0.mk (blk_below (g := gb133) (o := .cells #[.int .i64 0, .int .i64 0, .int .i64 0, .bool false, .int .i64 0, .string (⟨#[]⟩ : ByteArray), .bool false, .int .i64 0, .string (⟨#[]⟩ : ByteArray)] 47 (0, 0)) (by (with_reducible repeat (first | refine blk_drewN ?_ _ | refine blk_drew ?_ | refine blk_alloc ?_ _)); exact BK133.out) hb); have n1_ := Aside0.mk (below_step (by with_reducible repeat first | exact HB.out | apply below_alloc | apply pw_below_drewN | apply below_drew1 | refine below_set ?_ GE133.out) hb); have n2_ := Aside0.mk (hbox); have n3_ := Aside0.mk ((by rw [hg]; exact (below_size (by with_reducible repeat first | exact HB.out | apply below_alloc | apply pw_below_drewN | apply below_drew1 | refine below_set ?_ GE133.out)) : w.heap.size ≤ gb134)); have n4_ := Aside0.mk ((by rw [hg]; exact (below_size (by with_reducible repeat first | exact HB.out | apply below_alloc | apply pw_below_drewN | apply below_drew1 | refine below_set ?_ GE133.out)) : w.heap.size ≤ gb134)); have n5_ := Aside0.mk ((by rw [hg]; exact Nat.ne_of_lt (blk_lt (g := gb133) (o := .cells #[.int .i64 0, .int .i64 0, .int .i64 0, .bool false, .int .i64 0, .string (⟨#[]⟩ : ByteArray), .bool false, .int .i64 0, .string (⟨#[]⟩ : ByteArray)] 47 (0, 0)) (by (with_reducible repeat (first | refine blk_drewN ?_ _ | refine blk_drew ?_ | refine blk_alloc ?_ _)); exact BK133.out)) : gb133 ≠ gb134)); have n6_ := Aside0.mk ((by rw [hg]; exact Nat.ne_of_gt (blk_lt (g := gb133) (o := .cells #[.int .i64 0, .int .i64 0, .int .i64 0, .bool false, .int .i64 0, .string (⟨#[]⟩ : ByteArray), .bool false, .int .i64 0, .string (⟨#[]⟩ : ByteArray)] 47 (0, 0)) (by (with_reducible repeat (first | refine blk_drewN ?_ _ | refine blk_drew ?_ | refine blk_alloc ?_ _)); exact BK133.out)) : gb134 ≠ gb133)); clear BK133; clear HB; have BK133 := n0_; have HB := n1_; have BK134 := n2_; have GW134 := n3_; have GE134 := n4_; have NB133_134 := n5_; have NB134_133 := n6_; clear n0_ n1_ n2_ n3_ n4_ n5_ n6_; clear hb hbox hg))
 go_loopg [11] k (fun kq v11 w' => ∃ (x11_1 : Int) (x134000_1 : Int) (x134001_1 : Int) (x134002_1 : Int) (x134003_1 : Bool) (x134004_1 : Int) (x134005_1 : ByteArray) (x134006_1 : Bool) (x134007_1 : Int) (x134008_1 : ByteArray) (x135000_1 : Int) (x135001_1 : Int) (x135002_1 : Int) (x135003_1 : Bool) (x135004_1 : Int) (x135005_1 : ByteArray) (x135006_1 : Bool) (x135007_1 : Int) (x135008_1 : ByteArray), v11 = .int .i64 x11_1 ∧ Aside0 (sums_Fold.l0 kq a1 l0 (l0.length : Int) x11_1 x135000_1 x135001_1 x135002_1 x135003_1 x135004_1 x135005_1 x135006_1 x135007_1 x135008_1 = some (r1, r2, r3, r4, r5, r6, r7, r8, r9, r10)) ∧ Aside0 (kq ≤ k) ∧ Aside0 (w'.heap[gb133]? = some (.cells #[.int .i64 x134000_1, .int .i64 x134001_1, .int .i64 x134002_1, .bool x134003_1, .int .i64 x134004_1, .string x134005_1, .bool x134006_1, .int .i64 x134007_1, .string x134008_1] 47 (0, 0))) ∧ Aside0 (w'.heap[gb134]? = some (.cells #[.int .i64 x135000_1, .int .i64 x135001_1, .int .i64 x135002_1, .bool x135003_1, .int .i64 x135004_1, .string x135005_1, .bool x135006_1, .int .i64 x135007_1, .string x135008_1] 47 (0, 0))) ∧ Aside0 (Below w.heap.size w w'))
 case atStart => exact ⟨(0), (0), (0), (0), (false), (0), ((⟨#[]⟩ : ByteArray)), (false), (0), ((⟨#[]⟩ : ByteArray)), (0), (0), (0), (false), (0), ((⟨#[]⟩ : ByteArray)), (false), (0), ((⟨#[]⟩ : ByteArray)), (by first | rfl | (simp; done) | (simp [*]; done)), H', ⟨Nat.le_refl _⟩, ⟨by (with_reducible repeat (first | refine blk_drewN ?_ _ | refine blk_drew ?_ | refine blk_alloc ?_ _)); exact BK133.out⟩, ⟨by (with_reducible repeat (first | refine blk_drewN ?_ _ | refine blk_drew ?_ | refine blk_alloc ?_ _)); exact BK134.out⟩, ⟨by repeat (first | (with_reducible first | exact HB.out | apply below_alloc | apply pw_below_drewN | apply below_drew1 | refine below_set ?_ GE133.out | refine below_set ?_ GE134.out) | exact HB.out)⟩⟩
 case round =>
  clear H'
  try clear p2
  try clear c3
  obtain ⟨x11_1, x134000_1, x134001_1, x134002_1, x134003_1, x134004_1, x134005_1, x134006_1, x134007_1, x134008_1, x135000_1, x135001_1, x135002_1, x135003_1, x135004_1, x135005_1, x135006_1, x135007_1, x135008_1, rfl, HA, HK1, BK133, BK134, HB⟩ := hrel
  cases gk with
  | zero => exact absurd HA.out (by simp [sums_Fold.l0])
  | succ k1 =>
   have H := HA.out
   clear HA
   simp only [sums_Fold.l0] at H
   by_cases c5 : x11_1 < (l0.length : Int)
   ·rw [if_pos c5] at H
    have c5b0 : decide (x11_1 < (l0.length : Int)) = true := decide_eq_true c5
    clear c5
    by_cases c6 : 0 ≤ x11_1
    ·rw [if_pos c6] at H
     have c6b0 : decide (0 ≤ x11_1) = true := decide_eq_true c6
     clear c6
     by_cases c7 : x11_1 < (l0.length : Int)
     ·rw [if_pos c7] at H
      have c7b0 : decide (x11_1 < (l0.length : Int)) = true := decide_eq_true c7
      clear c7
      replace H := Option.bind_eq_some_iff.mp H
      obtain ⟨t136, A80, H⟩ := H
      replace H : (if t136 = true then (some (0, 0, 0, false, 0, (⟨#[]⟩ : ByteArray), false, 0, (⟨#[]⟩ : ByteArray), 7)) else (if 0 ≤ a1 then (if a1 < ((rd_L7 l0 x11_1).length : Int) then ((sums_one.f ((rd_T37 (rd_L7 l0 x11_1) a1).f0) ((rd_T37 (rd_L7 l0 x11_1) a1).f1) ((rd_T37 (rd_L7 l0 x11_1) a1).f2)).bind fun bt138 => ((sums_Join_c.f x135000_1 x135001_1 x135002_1 x135003_1 x135004_1 x135005_1 x135006_1 x135007_1 x135008_1 bt138.1 bt138.2.1 bt138.2.2.1 bt138.2.2.2.1 bt138.2.2.2.2.1 bt138.2.2.2.2.2.1 bt138.2.2.2.2.2.2.1 bt138.2.2.2.2.2.2.2.1 bt138.2.2.2.2.2.2.2.2).bind fun bt147 => (sums_Fold.l0 k1 a1 l0 (l0.length : Int) (wrap64 (x11_1 + 1)) bt147.1 bt147.2.1 bt147.2.2.1 bt147.2.2.2.1 bt147.2.2.2.2.1 bt147.2.2.2.2.2.1 bt147.2.2.2.2.2.2.1 bt147.2.2.2.2.2.2.2.1 bt147.2.2.2.2.2.2.2.2))) else (none)) else (none))) = some (r1, r2, r3, r4, r5, r6, r7, r8, r9, r10) := H
      have A8 := Aside0.mk A80
      clear A80
      by_cases c9 : t136 = true
      ·subst c9
       have H1 : (some (0, 0, 0, false, 0, (⟨#[]⟩ : ByteArray), false, 0, (⟨#[]⟩ : ByteArray), 7)) = some (r1, r2, r3, r4, r5, r6, r7, r8, r9, r10) := by rw [if_pos rfl] at H; exact H
       clear H
       have H := H1
       clear H1
       simp only [Option.some.injEq, Prod.mk.injEq] at H
       obtain ⟨rfl, rfl, rfl, rfl, rfl, rfl, rfl, rfl, rfl, rfl⟩ := H
       have p135 : 0 ≤ (x11_1 : Int) := of_decide_eq_true (by with_reducible assumption)
       have q135 : x11_1 < (l0.length : Int) := of_decide_eq_true (by with_reducible assumption)
       obtain ⟨ad135, A135_0, c135_0, e135, hx135_0, hl135_0, hi135_0⟩ := at_L7 HR0.out x11_1 p135 q135
       cases e135
       replace hx135_0 := pw_cell_below HB.out hx135_0
       have HR135_0 := Aside0.mk hi135_0
       have HC135_0 := Aside0.mk hl135_0
       clear hi135_0 hl135_0
       replace p135 := eq_true p135
       replace q135 := eq_true q135
       go_wp2_with (first | ((with_reducible refine gate_callee (f := 62) rfl ?_); refine goesL_ (some 17) rfl rfl Try.func62 (by kernel_rfl) rfl #[.slice A135_0 (rd_L7 l0 x11_1).length c135_0, .int .i64 a1] rfl (by (try simp only [List.map_toArray, List.map_cons, List.map_nil]); first | done | rfl | (simp only [List.length_drop, List.length_take]; rfl)) ?_; (with_reducible refine (sums_none.calls _ _ (rd_L7 l0 x11_1) a1 true _ ?side1 ?side2 A8.out).mono ?_); (case side1 => repeat (first | exact (Kd.C_below HR135_0.out HB.out) | (with_reducible refine Kd.C_alloc ?_ _) | (with_reducible refine Kd.C_drewN ?_ _) | (with_reducible refine Kd.C_drew ?_))); (case side2 => exact HC135_0.out); rintro e w' ⟨rfl, ⟨nd, rfl⟩⟩; refine ⟨_, rfl, ?_⟩; (try (rw [drewN_self wr]; generalize hq_ : World.drewN wr _ = wr; have n0_ : Aside0 (wr.heap[gb133]? = some (.cells #[.int .i64 x134000_1, .int .i64 x134001_1, .int .i64 x134002_1, .bool x134003_1, .int .i64 x134004_1, .string x134005_1, .bool x134006_1, .int .i64 x134007_1, .string x134008_1] 47 (0, 0))) := ⟨by rw [← hq_]; exact (by (with_reducible repeat (first | refine blk_drewN ?_ _ | refine blk_drew ?_ | refine blk_alloc ?_ _)); exact BK133.out)⟩; have n1_ : Aside0 (wr.heap[gb134]? = some (.cells #[.int .i64 x135000_1, .int .i64 x135001_1, .int .i64 x135002_1, .bool x135003_1, .int .i64 x135004_1, .string x135005_1, .bool x135006_1, .int .i64 x135007_1, .string x135008_1] 47 (0, 0))) := ⟨by rw [← hq_]; exact (by (with_reducible repeat (first | refine blk_drewN ?_ _ | refine blk_drew ?_ | refine blk_alloc ?_ _)); exact BK134.out)⟩; have n2_ : Aside0 (Below w.heap.size w wr) := ⟨by rw [← hq_]; exact (by with_reducible repeat first | exact HB.out | apply below_alloc | apply pw_below_drewN | apply below_drew1 | refine below_set ?_ GE133.out | refine below_set ?_ GE134.out)⟩; clear BK133 BK134 HB hq_; have BK133 := n0_; have BK134 := n1_; have HB := n2_; clear n0_ n1_ n2_)); have hnb10 := NB133_134.out; have hnc10 := NB134_133.out; obtain ⟨hcz11_0, hcz11_1, hcz11_2, hcz11_3, hcz11_4, hcz11_5, hcz11_6, hcz11_7, hcz11_8⟩ := bc9 BK133.out; obtain ⟨hfz11_0, hfz11_1, hfz11_2, hfz11_3, hfz11_4, hfz11_5, hfz11_6, hfz11_7, hfz11_8⟩ := bf9 BK133.out))
       refine bodyPost_ret (results_ct rfl _ _ gb133 47 #[.int .i64 0, .int .i64 0, .int .i64 0, .bool false, .int .i64 0, .string (⟨#[]⟩ : ByteArray), .bool false, .int .i64 0, .string (⟨#[]⟩ : ByteArray)] (0, 0) _ rfl (by refine blk_put (cs := #[.int .i64 0, .int .i64 0, .int .i64 0, .bool false, .int .i64 0, .string (⟨#[]⟩ : ByteArray), .bool false, .int .i64 0, .string x134008_1]) ?_ 8 _ rfl; refine blk_put (cs := #[.int .i64 0, .int .i64 0, .int .i64 0, .bool false, .int .i64 0, .string (⟨#[]⟩ : ByteArray), .bool false, .int .i64 x134007_1, .string x134008_1]) ?_ 7 _ rfl; refine blk_put (cs := #[.int .i64 0, .int .i64 0, .int .i64 0, .bool false, .int .i64 0, .string (⟨#[]⟩ : ByteArray), .bool x134006_1, .int .i64 x134007_1, .string x134008_1]) ?_ 6 _ rfl; refine blk_put (cs := #[.int .i64 0, .int .i64 0, .int .i64 0, .bool false, .int .i64 0, .string x134005_1, .bool x134006_1, .int .i64 x134007_1, .string x134008_1]) ?_ 5 _ rfl; refine blk_put (cs := #[.int .i64 0, .int .i64 0, .int .i64 0, .bool false, .int .i64 x134004_1, .string x134005_1, .bool x134006_1, .int .i64 x134007_1, .string x134008_1]) ?_ 4 _ rfl; refine blk_put (cs := #[.int .i64 0, .int .i64 0, .int .i64 0, .bool x134003_1, .int .i64 x134004_1, .string x134005_1, .bool x134006_1, .int .i64 x134007_1, .string x134008_1]) ?_ 3 _ rfl; refine blk_put (cs := #[.int .i64 0, .int .i64 0, .int .i64 x134002_1, .bool x134003_1, .int .i64 x134004_1, .string x134005_1, .bool x134006_1, .int .i64 x134007_1, .string x134008_1]) ?_ 2 _ rfl; refine blk_put (cs := #[.int .i64 0, .int .i64 x134001_1, .int .i64 x134002_1, .bool x134003_1, .int .i64 x134004_1, .string x134005_1, .bool x134006_1, .int .i64 x134007_1, .string x134008_1]) ?_ 1 _ rfl; refine blk_put (cs := #[.int .i64 x134000_1, .int .i64 x134001_1, .int .i64 x134002_1, .bool x134003_1, .int .i64 x134004_1, .string x134005_1, .bool x134006_1, .int .i64 x134007_1, .string x134008_1]) ?_ 0 _ rfl; (with_reducible repeat (first | refine blk_drewN ?_ _ | refine blk_drew ?_ | refine blk_alloc ?_ _)); exact BK133.out) Try.underlying47 rfl (by kernel_rfl)) rfl ?_
       exact ⟨by first | rfl | (simp [errW_none, errW_some] <;> rfl) | (simp [*, errW_none, errW_some] <;> rfl), by repeat (first | (with_reducible first | exact HB.out | apply below_alloc | apply pw_below_drewN | apply below_drew1 | refine below_set ?_ GE133.out | refine below_set ?_ GE134.out) | exact HB.out)⟩
      ·replace c9 := Bool.eq_false_iff.mpr c9
       subst c9
       have H1 : (if 0 ≤ a1 then (if a1 < ((rd_L7 l0 x11_1).length : Int) then ((sums_one.f ((rd_T37 (rd_L7 l0 x11_1) a1).f0) ((rd_T37 (rd_L7 l0 x11_1) a1).f1) ((rd_T37 (rd_L7 l0 x11_1) a1).f2)).bind fun bt138 => ((sums_Join_c.f x135000_1 x135001_1 x135002_1 x135003_1 x135004_1 x135005_1 x135006_1 x135007_1 x135008_1 bt138.1 bt138.2.1 bt138.2.2.1 bt138.2.2.2.1 bt138.2.2.2.2.1 bt138.2.2.2.2.2.1 bt138.2.2.2.2.2.2.1 bt138.2.2.2.2.2.2.2.1 bt138.2.2.2.2.2.2.2.2).bind fun bt147 => (sums_Fold.l0 k1 a1 l0 (l0.length : Int) (wrap64 (x11_1 + 1)) bt147.1 bt147.2.1 bt147.2.2.1 bt147.2.2.2.1 bt147.2.2.2.2.1 bt147.2.2.2.2.2.1 bt147.2.2.2.2.2.2.1 bt147.2.2.2.2.2.2.2.1 bt147.2.2.2.2.2.2.2.2))) else (none)) else (none)) = some (r1, r2, r3, r4, r5, r6, r7, r8, r9, r10) := by rw [if_neg (show ¬ (false = true) by decide)] at H; exact H
       clear H
       have H := H1
       clear H1
       by_cases c12 : 0 ≤ a1
       ·rw [if_pos c12] at H
        have c12b0 : decide (0 ≤ a1) = true := decide_eq_true c12
        clear c12
        by_cases c13 : a1 < ((rd_L7 l0 x11_1).length : Int)
        ·rw [if_pos c13] at H
         have c13b0 : decide (a1 < ((rd_L7 l0 x11_1).length : Int)) = true := decide_eq_true c13
         clear c13
         replace H := Option.bind_eq_some_iff.mp H
         obtain ⟨⟨t138, t139, t140, t141, t142, t143, t144, t145, t146⟩, A140, H⟩ := H
         replace H : ((sums_Join_c.f x135000_1 x135001_1 x135002_1 x135003_1 x135004_1 x135005_1 x135006_1 x135007_1 x135008_1 t138 t139 t140 t141 t142 t143 t144 t145 t146).bind fun bt147 => (sums_Fold.l0 k1 a1 l0 (l0.length : Int) (wrap64 (x11_1 + 1)) bt147.1 bt147.2.1 bt147.2.2.1 bt147.2.2.2.1 bt147.2.2.2.2.1 bt147.2.2.2.2.2.1 bt147.2.2.2.2.2.2.1 bt147.2.2.2.2.2.2.2.1 bt147.2.2.2.2.2.2.2.2)) = some (r1, r2, r3, r4, r5, r6, r7, r8, r9, r10) := H
         have A14 := Aside0.mk A140
         clear A140
         replace H := Option.bind_eq_some_iff.mp H
         obtain ⟨⟨t147, t148, t149, t150, t151, t152, t153, t154, t155⟩, A150, H⟩ := H
         replace H : (sums_Fold.l0 k1 a1 l0 (l0.length : Int) (wrap64 (x11_1 + 1)) t147 t148 t149 t150 t151 t152 t153 t154 t155) = some (r1, r2, r3, r4, r5, r6, r7, r8, r9, r10) := H
         have A15 := Aside0.mk A150
         clear A150
         have H' := Aside0.mk H
         clear H
         have p135 : 0 ≤ (x11_1 : Int) := of_decide_eq_true (by with_reducible assumption)
         have q135 : x11_1 < (l0.length : Int) := of_decide_eq_true (by with_reducible assumption)
         obtain ⟨ad135, A135_0, c135_0, e135, hx135_0, hl135_0, hi135_0⟩ := at_L7 HR0.out x11_1 p135 q135
         cases e135
         replace hx135_0 := pw_cell_below HB.out hx135_0
         have HR135_0 := Aside0.mk hi135_0
         have HC135_0 := Aside0.mk hl135_0
         clear hi135_0 hl135_0
         replace p135 := eq_true p135
         replace q135 := eq_true q135
         try go_wp2_with (first | ((with_reducible refine gate_callee (f := 62) rfl ?_); refine goesL_ (some 17) rfl rfl Try.func62 (by kernel_rfl) rfl #[.slice A135_0 (rd_L7 l0 x11_1).length c135_0, .int .i64 a1] rfl (by (try simp only [List.map_toArray, List.map_cons, List.map_nil]); first | done | rfl | (simp only [List.length_drop, List.length_take]; rfl)) ?_; (with_reducible refine (sums_none.calls _ _ (rd_L7 l0 x11_1) a1 false _ ?side1 ?side2 A8.out).mono ?_); (case side1 => repeat (first | exact (Kd.C_below HR135_0.out HB.out) | (with_reducible refine Kd.C_alloc ?_ _) | (with_reducible refine Kd.C_drewN ?_ _) | (with_reducible refine Kd.C_drew ?_))); (case side2 => exact HC135_0.out); rintro e w' ⟨rfl, ⟨nd, rfl⟩⟩; refine ⟨_, rfl, ?_⟩; (try (rw [drewN_self wr]; generalize hq_ : World.drewN wr _ = wr; have n0_ : Aside0 (wr.heap[gb133]? = some (.cells #[.int .i64 x134000_1, .int .i64 x134001_1, .int .i64 x134002_1, .bool x134003_1, .int .i64 x134004_1, .string x134005_1, .bool x134006_1, .int .i64 x134007_1, .string x134008_1] 47 (0, 0))) := ⟨by rw [← hq_]; exact (by (with_reducible repeat (first | refine blk_drewN ?_ _ | refine blk_drew ?_ | refine blk_alloc ?_ _)); exact BK133.out)⟩; have n1_ : Aside0 (wr.heap[gb134]? = some (.cells #[.int .i64 x135000_1, .int .i64 x135001_1, .int .i64 x135002_1, .bool x135003_1, .int .i64 x135004_1, .string x135005_1, .bool x135006_1, .int .i64 x135007_1, .string x135008_1] 47 (0, 0))) := ⟨by rw [← hq_]; exact (by (with_reducible repeat (first | refine blk_drewN ?_ _ | refine blk_drew ?_ | refine blk_alloc ?_ _)); exact BK134.out)⟩; have n2_ : Aside0 (Below w.heap.size w wr) := ⟨by rw [← hq_]; exact (by with_reducible repeat first | exact HB.out | apply below_alloc | apply pw_below_drewN | apply below_drew1 | refine below_set ?_ GE133.out | refine below_set ?_ GE134.out)⟩; clear BK133 BK134 HB hq_; have BK133 := n0_; have BK134 := n1_; have HB := n2_; clear n0_ n1_ n2_))))
         have n0_ := Aside0.mk (blk_drew BK133.out)
         have n1_ := Aside0.mk (blk_drew BK134.out)
         have n2_ := Aside0.mk (below_drew1 HB.out)
         clear BK133
         clear BK134
         clear HB
         have BK133 := n0_
         have BK134 := n1_
         have HB := n2_
         clear n0_ n1_ n2_
         have p137 : 0 ≤ (a1 : Int) := of_decide_eq_true (by with_reducible assumption)
         have q137 : a1 < ((rd_L7 l0 x11_1).length : Int) := of_decide_eq_true (by with_reducible assumption)
         obtain ⟨ad137, e137, hx137_0, hx137_1, hx137_2⟩ := at_T37 HR135_0.out a1 p137 q137
         have hw137_2 := hx137_2
         have hw137_1 := hx137_1
         have hw137_0 := hx137_0
         cases e137
         replace hx137_0 := pw_cell_below HB.out hx137_0
         replace hx137_1 := pw_cell_below HB.out hx137_1
         replace hx137_2 := pw_cell_below HB.out hx137_2
         replace p137 := eq_true p137
         replace q137 := eq_true q137
         refine start_ (n := 8) (S := fun w' => w'.cell? ⟨gb134, 0, none⟩ = some (.int .i64 x135000_1) ∧ w'.cell? ⟨gb134, 1, none⟩ = some (.int .i64 x135001_1) ∧ w'.cell? ⟨gb134, 2, none⟩ = some (.int .i64 x135002_1) ∧ w'.cell? ⟨gb134, 3, none⟩ = some (.bool x135003_1) ∧ w'.cell? ⟨gb134, 4, none⟩ = some (.int .i64 x135004_1) ∧ w'.cell? ⟨gb134, 5, none⟩ = some (.string x135005_1) ∧ w'.cell? ⟨gb134, 6, none⟩ = some (.bool x135006_1) ∧ w'.cell? ⟨gb134, 7, none⟩ = some (.int .i64 x135007_1) ∧ w'.cell? ⟨gb134, 8, none⟩ = some (.string x135008_1) ∧ w'.cell? (ad137.add ((a1).toNat * 3)) = some (.bool ((rd_T37 (rd_L7 l0 x11_1) a1).f0)) ∧ w'.cell? ⟨(ad137.add ((a1).toNat * 3)).block, (ad137.add ((a1).toNat * 3)).off + 1, none⟩ = some (.int .i64 ((rd_T37 (rd_L7 l0 x11_1) a1).f1)) ∧ w'.cell? ⟨(ad137.add ((a1).toNat * 3)).block, (ad137.add ((a1).toNat * 3)).off + 2, none⟩ = some (.string ((rd_T37 (rd_L7 l0 x11_1) a1).f2))) (ds := [7]) #[false, false, false, false, false, false, false, false] (by kernel_rfl) rfl rfl ⟨(blk_cell BK134.out 0).trans rfl, (blk_cell BK134.out 1).trans rfl, (blk_cell BK134.out 2).trans rfl, (blk_cell BK134.out 3).trans rfl, (blk_cell BK134.out 4).trans rfl, (blk_cell BK134.out 5).trans rfl, (blk_cell BK134.out 6).trans rfl, (blk_cell BK134.out 7).trans rfl, (blk_cell BK134.out 8).trans rfl, (pw_cell_below HB.out hw137_0), (pw_cell_below HB.out hw137_1), (pw_cell_below HB.out hw137_2)⟩ (fun hHeld => ?_); refine with_tabW sums_Fold.tab7 sums_Fold.bits7 (fun HT_ HW_ => ?_)
         generalize wr.drew = w16 at BK133 BK134 HB hx137_0 hx137_1 hx137_2 hHeld ⊢
         refine pure_ (i := 1) (N := some 20) (v := ?_) (a' := ?_) #[false, true, false, false, false, false, false, false] rfl rfl (any_of HT_.out (by kernel_rfl)) (fun _ _ _ h => h) (Or.inl ⟨by rfl, ?_⟩) ?_ ?_
         rotate_left
         ·intro w'
          go_simp
          with_reducible rfl
         rotate_left
         ·simp only [Act.put, List.setIfInBounds_toArray, List.set_cons_zero, List.set_cons_succ, i64_w, i32_w]
          rfl
         refine pure_ (i := 2) (N := some 21) (v := ?_) (a' := ?_) #[false, true, true, false, false, false, false, false] rfl rfl (any_of HT_.out (by kernel_rfl)) (fun _ _ _ h => h) (Or.inl ⟨by rfl, ?_⟩) ?_ ?_
         rotate_left
         ·intro w'
          go_simp
          with_reducible rfl
         rotate_left
         ·simp only [Act.put, List.setIfInBounds_toArray, List.set_cons_zero, List.set_cons_succ, i64_w, i32_w]
          rfl
         refine pure_ (i := 3) (N := some 22) (v := ?_) (a' := ?_) #[false, true, true, true, false, false, false, false] rfl rfl (any_of HT_.out (by kernel_rfl)) (fun _ _ _ h => h) (Or.inl ⟨by rfl, ?_⟩) ?_ ?_
         rotate_left
         ·intro w'
          go_simp
          with_reducible rfl
         rotate_left
         ·simp only [Act.put, List.setIfInBounds_toArray, List.set_cons_zero, List.set_cons_succ, i64_w, i32_w]
          rfl
         refine take_ (i := 0) (N := some 19) (v := ?_) (a' := ?_) #[true, true, true, true, false, false, false, false] rfl rfl (take_ofW HT_.out HW_.out (by kernel_rfl)) (fun _ _ _ h => h) (Or.inl ⟨by rfl, ?_⟩) hHeld ?_ ?_
         rotate_left
         ·rintro w' ⟨s0, s1, s2, s3, s4, s5, s6, s7, s8, s9, s10, s11⟩
          go_simp
          with_reducible rfl
         rotate_left
         ·simp only [Act.put, List.setIfInBounds_toArray, List.set_cons_zero, List.set_cons_succ, i64_w, i32_w]
          rfl
         refine take_ (i := 4) (N := some 23) (v := ?_) (a' := ?_) #[true, true, true, true, true, false, false, false] rfl rfl (take_ofW HT_.out HW_.out (by kernel_rfl)) (fun _ _ _ h => h) (Or.inl ⟨by rfl, ?_⟩) hHeld ?_ ?_
         rotate_left
         ·rintro w' ⟨s0, s1, s2, s3, s4, s5, s6, s7, s8, s9, s10, s11⟩
          go_simp
          with_reducible rfl
         rotate_left
         ·simp only [Act.put, List.setIfInBounds_toArray, List.set_cons_zero, List.set_cons_succ, i64_w, i32_w]
          rfl
         refine one_ (i := 5) (N := some 24) #[true, true, true, true, true, true, false, false] rfl rfl (one_of HT_.out (by kernel_rfl)) (by decide) (fun K hK => ?_)
         refine goes_ Try.func63 (by kernel_rfl) rfl #[.agg #[.bool ((rd_T37 (rd_L7 l0 x11_1) a1).f0), .int .i64 ((rd_T37 (rd_L7 l0 x11_1) a1).f1), .string ((rd_T37 (rd_L7 l0 x11_1) a1).f2)]] (by rfl) rfl rfl (by (try simp only [List.map_toArray, List.map_cons, List.map_nil]); first | done | rfl | (simp only [List.length_drop, List.length_take]; rfl)) ?_
         with_reducible refine (sums_one.calls ((rd_T37 (rd_L7 l0 x11_1) a1).f0) ((rd_T37 (rd_L7 l0 x11_1) a1).f1) ((rd_T37 (rd_L7 l0 x11_1) a1).f2) t138 t139 t140 t141 t142 t143 t144 t145 t146 _ A14.out).mono ?_
         rintro e w17 ⟨rfl, hb⟩
         refine ⟨_, rfl, ?_⟩
         have n0_ := Aside0.mk (blk_below (g := gb133) (o := .cells #[.int .i64 x134000_1, .int .i64 x134001_1, .int .i64 x134002_1, .bool x134003_1, .int .i64 x134004_1, .string x134005_1, .bool x134006_1, .int .i64 x134007_1, .string x134008_1] 47 (0, 0)) (by (with_reducible repeat (first | refine blk_drewN ?_ _ | refine blk_drew ?_ | refine blk_alloc ?_ _)); exact BK133.out) hb)
         have n1_ := Aside0.mk (blk_below (g := gb134) (o := .cells #[.int .i64 x135000_1, .int .i64 x135001_1, .int .i64 x135002_1, .bool x135003_1, .int .i64 x135004_1, .string x135005_1, .bool x135006_1, .int .i64 x135007_1, .string x135008_1] 47 (0, 0)) (by (with_reducible repeat (first | refine blk_drewN ?_ _ | refine blk_drew ?_ | refine blk_alloc ?_ _)); exact BK134.out) hb)
         have n2_ := Aside0.mk (below_step (by with_reducible repeat first | exact HB.out | apply below_alloc | apply pw_below_drewN | apply below_drew1 | refine below_set ?_ GE133.out | refine below_set ?_ GE134.out) hb)
         clear BK133
         clear BK134
         clear HB
         have BK133 := n0_
         have BK134 := n1_
         have HB := n2_
         clear n0_ n1_ n2_
         (try clear hb)
         (try clear hb2)
         (try clear hk)
         (try clear hi)
         refine hK.out _ _ ⟨(blk_cell BK134.out 0).trans rfl, (blk_cell BK134.out 1).trans rfl, (blk_cell BK134.out 2).trans rfl, (blk_cell BK134.out 3).trans rfl, (blk_cell BK134.out 4).trans rfl, (blk_cell BK134.out 5).trans rfl, (blk_cell BK134.out 6).trans rfl, (blk_cell BK134.out 7).trans rfl, (blk_cell BK134.out 8).trans rfl, (pw_cell_below HB.out hw137_0), (pw_cell_below HB.out hw137_1), (pw_cell_below HB.out hw137_2)⟩ (fun hHeld => ?_)
         clear hK K
         refine norm_ (a' := ?_) ?_ ?_
         rotate_left
         ·show Act.put _ (some 24) _ = _
          simp only [Act.put, List.setIfInBounds_toArray, List.set_cons_zero, List.set_cons_succ, i64_w, i32_w]
          rfl
         refine one_ (i := 6) (N := some 25) #[true, true, true, true, true, true, true, false] rfl rfl (one_of HT_.out (by kernel_rfl)) (by decide) (fun K hK => ?_)
         refine goes_ Try.func60 (by kernel_rfl) rfl #[.agg #[.int .i64 x135000_1, .int .i64 x135001_1, .int .i64 x135002_1, .bool x135003_1, .int .i64 x135004_1, .string x135005_1, .bool x135006_1, .int .i64 x135007_1, .string x135008_1], .agg #[.int .i64 t138, .int .i64 t139, .int .i64 t140, .bool t141, .int .i64 t142, .string t143, .bool t144, .int .i64 t145, .string t146]] (by rfl) rfl rfl (by (try simp only [List.map_toArray, List.map_cons, List.map_nil]); first | done | rfl | (simp only [List.length_drop, List.length_take]; rfl)) ?_
         with_reducible refine (sums_Join_c.calls x135000_1 x135001_1 x135002_1 x135003_1 x135004_1 x135005_1 x135006_1 x135007_1 x135008_1 t138 t139 t140 t141 t142 t143 t144 t145 t146 t147 t148 t149 t150 t151 t152 t153 t154 t155 _ A15.out).mono ?_
         rintro e w18 ⟨rfl, hb⟩
         refine ⟨_, rfl, ?_⟩
         have n0_ := Aside0.mk (blk_below (g := gb133) (o := .cells #[.int .i64 x134000_1, .int .i64 x134001_1, .int .i64 x134002_1, .bool x134003_1, .int .i64 x134004_1, .string x134005_1, .bool x134006_1, .int .i64 x134007_1, .string x134008_1] 47 (0, 0)) (by (with_reducible repeat (first | refine blk_drewN ?_ _ | refine blk_drew ?_ | refine blk_alloc ?_ _)); exact BK133.out) hb)
         have n1_ := Aside0.mk (blk_below (g := gb134) (o := .cells #[.int .i64 x135000_1, .int .i64 x135001_1, .int .i64 x135002_1, .bool x135003_1, .int .i64 x135004_1, .string x135005_1, .bool x135006_1, .int .i64 x135007_1, .string x135008_1] 47 (0, 0)) (by (with_reducible repeat (first | refine blk_drewN ?_ _ | refine blk_drew ?_ | refine blk_alloc ?_ _)); exact BK134.out) hb)
         have n2_ := Aside0.mk (below_step (by with_reducible repeat first | exact HB.out | apply below_alloc | apply pw_below_drewN | apply below_drew1 | refine below_set ?_ GE133.out | refine below_set ?_ GE134.out) hb)
         clear BK133
         clear BK134
         clear HB
         have BK133 := n0_
         have BK134 := n1_
         have HB := n2_
         clear n0_ n1_ n2_
         (try clear hb)
         (try clear hb2)
         (try clear hk)
         (try clear hi)
         refine hK.out _ _ ⟨(blk_cell BK134.out 0).trans rfl, (blk_cell BK134.out 1).trans rfl, (blk_cell BK134.out 2).trans rfl, (blk_cell BK134.out 3).trans rfl, (blk_cell BK134.out 4).trans rfl, (blk_cell BK134.out 5).trans rfl, (blk_cell BK134.out 6).trans rfl, (blk_cell BK134.out 7).trans rfl, (blk_cell BK134.out 8).trans rfl, (pw_cell_below HB.out hw137_0), (pw_cell_below HB.out hw137_1), (pw_cell_below HB.out hw137_2)⟩ (fun hHeld => ?_)
         clear hK K
         refine norm_ (a' := ?_) ?_ ?_
         rotate_left
         ·show Act.put _ (some 25) _ = _
          simp only [Act.put, List.setIfInBounds_toArray, List.set_cons_zero, List.set_cons_succ, i64_w, i32_w]
          rfl
         refine last_ (i := 7) (N := none) #[true, true, true, true, true, true, true, true] rfl rfl (one_of HT_.out (by kernel_rfl)) (by decide) (fun K hK => ?_)
         have hs19 : w18.cell? ⟨gb134, 0, none⟩ = some (.int .i64 x135000_1) := (blk_cell BK134.out 0).trans rfl
         have hfs19 := blk_frozen BK134.out 0
         have hns19_0 := NB133_134.out
         have hms19_0 := NB134_133.out
         have hs20 : w18.cell? ⟨gb134, 1, none⟩ = some (.int .i64 x135001_1) := (blk_cell BK134.out 1).trans rfl
         have hfs20 := blk_frozen BK134.out 1
         have hns20_0 := NB133_134.out
         have hms20_0 := NB134_133.out
         have hs21 : w18.cell? ⟨gb134, 2, none⟩ = some (.int .i64 x135002_1) := (blk_cell BK134.out 2).trans rfl
         have hfs21 := blk_frozen BK134.out 2
         have hns21_0 := NB133_134.out
         have hms21_0 := NB134_133.out
         have hs22 : w18.cell? ⟨gb134, 3, none⟩ = some (.bool x135003_1) := (blk_cell BK134.out 3).trans rfl
         have hfs22 := blk_frozen BK134.out 3
         have hns22_0 := NB133_134.out
         have hms22_0 := NB134_133.out
         have hs23 : w18.cell? ⟨gb134, 4, none⟩ = some (.int .i64 x135004_1) := (blk_cell BK134.out 4).trans rfl
         have hfs23 := blk_frozen BK134.out 4
         have hns23_0 := NB133_134.out
         have hms23_0 := NB134_133.out
         have hs24 : w18.cell? ⟨gb134, 5, none⟩ = some (.string x135005_1) := (blk_cell BK134.out 5).trans rfl
         have hfs24 := blk_frozen BK134.out 5
         have hns24_0 := NB133_134.out
         have hms24_0 := NB134_133.out
         have hs25 : w18.cell? ⟨gb134, 6, none⟩ = some (.bool x135006_1) := (blk_cell BK134.out 6).trans rfl
         have hfs25 := blk_frozen BK134.out 6
         have hns25_0 := NB133_134.out
         have hms25_0 := NB134_133.out
         have hs26 : w18.cell? ⟨gb134, 7, none⟩ = some (.int .i64 x135007_1) := (blk_cell BK134.out 7).trans rfl
         have hfs26 := blk_frozen BK134.out 7
         have hns26_0 := NB133_134.out
         have hms26_0 := NB134_133.out
         have hs27 : w18.cell? ⟨gb134, 8, none⟩ = some (.string x135008_1) := (blk_cell BK134.out 8).trans rfl
         have hfs27 := blk_frozen BK134.out 8
         have hns27_0 := NB133_134.out
         have hms27_0 := NB134_133.out
         refine skip_ (w1 := ?_) (by rfl) rfl ?_ ?_
         rotate_left
         ·go_simp
          rfl
         refine hK.out _ _ ?_
         clear hK K
         refine done_ (done_of HT_.out (by kernel_rfl)) ?_
         try go_wp2
         go_roundg k1
         case measure => have := HK1.out; omega
         case rel => exact ⟨(wrap64 (x11_1 + 1)), (x134000_1), (x134001_1), (x134002_1), (x134003_1), (x134004_1), (x134005_1), (x134006_1), (x134007_1), (x134008_1), (t147), (t148), (t149), (t150), (t151), (t152), (t153), (t154), (t155), (by first | rfl | (simp; done) | (simp [*]; done)), H', ⟨by have := HK1.out; omega⟩, ⟨by (iterate 9 (refine blk_far ?_ NB133_134.out _)); (with_reducible repeat (first | refine blk_drewN ?_ _ | refine blk_drew ?_ | refine blk_alloc ?_ _)); exact BK133.out⟩, ⟨by refine blk_put (cs := #[.int .i64 t147, .int .i64 t148, .int .i64 t149, .bool t150, .int .i64 t151, .string t152, .bool t153, .int .i64 t154, .string x135008_1]) ?_ 8 _ rfl; refine blk_put (cs := #[.int .i64 t147, .int .i64 t148, .int .i64 t149, .bool t150, .int .i64 t151, .string t152, .bool t153, .int .i64 x135007_1, .string x135008_1]) ?_ 7 _ rfl; refine blk_put (cs := #[.int .i64 t147, .int .i64 t148, .int .i64 t149, .bool t150, .int .i64 t151, .string t152, .bool x135006_1, .int .i64 x135007_1, .string x135008_1]) ?_ 6 _ rfl; refine blk_put (cs := #[.int .i64 t147, .int .i64 t148, .int .i64 t149, .bool t150, .int .i64 t151, .string x135005_1, .bool x135006_1, .int .i64 x135007_1, .string x135008_1]) ?_ 5 _ rfl; refine blk_put (cs := #[.int .i64 t147, .int .i64 t148, .int .i64 t149, .bool t150, .int .i64 x135004_1, .string x135005_1, .bool x135006_1, .int .i64 x135007_1, .string x135008_1]) ?_ 4 _ rfl; refine blk_put (cs := #[.int .i64 t147, .int .i64 t148, .int .i64 t149, .bool x135003_1, .int .i64 x135004_1, .string x135005_1, .bool x135006_1, .int .i64 x135007_1, .string x135008_1]) ?_ 3 _ rfl; refine blk_put (cs := #[.int .i64 t147, .int .i64 t148, .int .i64 x135002_1, .bool x135003_1, .int .i64 x135004_1, .string x135005_1, .bool x135006_1, .int .i64 x135007_1, .string x135008_1]) ?_ 2 _ rfl; refine blk_put (cs := #[.int .i64 t147, .int .i64 x135001_1, .int .i64 x135002_1, .bool x135003_1, .int .i64 x135004_1, .string x135005_1, .bool x135006_1, .int .i64 x135007_1, .string x135008_1]) ?_ 1 _ rfl; refine blk_put (cs := #[.int .i64 x135000_1, .int .i64 x135001_1, .int .i64 x135002_1, .bool x135003_1, .int .i64 x135004_1, .string x135005_1, .bool x135006_1, .int .i64 x135007_1, .string x135008_1]) ?_ 0 _ rfl; (with_reducible repeat (first | refine blk_drewN ?_ _ | refine blk_drew ?_ | refine blk_alloc ?_ _)); exact BK134.out⟩, ⟨by repeat (first | (with_reducible first | exact HB.out | apply below_alloc | apply pw_below_drewN | apply below_drew1 | refine below_set ?_ GE133.out | refine below_set ?_ GE134.out) | exact HB.out)⟩⟩
        ·rw [if_neg c13] at H
         exact absurd H (by simp)
       ·rw [if_neg c12] at H
        exact absurd H (by simp)
     ·rw [if_neg c7] at H
      exact absurd H (by simp)
    ·rw [if_neg c6] at H
     exact absurd H (by simp)
   ·rw [if_neg c5] at H
    have c5b0 : decide (x11_1 < (l0.length : Int)) = false := decide_eq_false c5
    clear c5
    simp only [Option.some.injEq, Prod.mk.injEq] at H
    obtain ⟨rfl, rfl, rfl, rfl, rfl, rfl, rfl, rfl, rfl, rfl⟩ := H
    have hnb28 := NB134_133.out
    have hnc28 := NB133_134.out
    obtain ⟨hcz29_0, hcz29_1, hcz29_2, hcz29_3, hcz29_4, hcz29_5, hcz29_6, hcz29_7, hcz29_8⟩ := bc9 BK134.out
    obtain ⟨hfz29_0, hfz29_1, hfz29_2, hfz29_3, hfz29_4, hfz29_5, hfz29_6, hfz29_7, hfz29_8⟩ := bf9 BK134.out
    obtain ⟨hcz30_0, hcz30_1, hcz30_2, hcz30_3, hcz30_4, hcz30_5, hcz30_6, hcz30_7, hcz30_8⟩ := bc9 BK133.out
    obtain ⟨hfz30_0, hfz30_1, hfz30_2, hfz30_3, hfz30_4, hfz30_5, hfz30_6, hfz30_7, hfz30_8⟩ := bf9 BK133.out
    go_wp2
    refine bodyPost_ret (results_ct rfl _ _ gb133 47 #[.int .i64 x135000_1, .int .i64 x135001_1, .int .i64 x135002_1, .bool x135003_1, .int .i64 x135004_1, .string x135005_1, .bool x135006_1, .int .i64 x135007_1, .string x135008_1] (0, 0) _ rfl (by refine blk_put (cs := #[.int .i64 x135000_1, .int .i64 x135001_1, .int .i64 x135002_1, .bool x135003_1, .int .i64 x135004_1, .string x135005_1, .bool x135006_1, .int .i64 x135007_1, .string x134008_1]) ?_ 8 _ rfl; refine blk_put (cs := #[.int .i64 x135000_1, .int .i64 x135001_1, .int .i64 x135002_1, .bool x135003_1, .int .i64 x135004_1, .string x135005_1, .bool x135006_1, .int .i64 x134007_1, .string x134008_1]) ?_ 7 _ rfl; refine blk_put (cs := #[.int .i64 x135000_1, .int .i64 x135001_1, .int .i64 x135002_1, .bool x135003_1, .int .i64 x135004_1, .string x135005_1, .bool x134006_1, .int .i64 x134007_1, .string x134008_1]) ?_ 6 _ rfl; refine blk_put (cs := #[.int .i64 x135000_1, .int .i64 x135001_1, .int .i64 x135002_1, .bool x135003_1, .int .i64 x135004_1, .string x134005_1, .bool x134006_1, .int .i64 x134007_1, .string x134008_1]) ?_ 5 _ rfl; refine blk_put (cs := #[.int .i64 x135000_1, .int .i64 x135001_1, .int .i64 x135002_1, .bool x135003_1, .int .i64 x134004_1, .string x134005_1, .bool x134006_1, .int .i64 x134007_1, .string x134008_1]) ?_ 4 _ rfl; refine blk_put (cs := #[.int .i64 x135000_1, .int .i64 x135001_1, .int .i64 x135002_1, .bool x134003_1, .int .i64 x134004_1, .string x134005_1, .bool x134006_1, .int .i64 x134007_1, .string x134008_1]) ?_ 3 _ rfl; refine blk_put (cs := #[.int .i64 x135000_1, .int .i64 x135001_1, .int .i64 x134002_1, .bool x134003_1, .int .i64 x134004_1, .string x134005_1, .bool x134006_1, .int .i64 x134007_1, .string x134008_1]) ?_ 2 _ rfl; refine blk_put (cs := #[.int .i64 x135000_1, .int .i64 x134001_1, .int .i64 x134002_1, .bool x134003_1, .int .i64 x134004_1, .string x134005_1, .bool x134006_1, .int .i64 x134007_1, .string x134008_1]) ?_ 1 _ rfl; refine blk_put (cs := #[.int .i64 x134000_1, .int .i64 x134001_1, .int .i64 x134002_1, .bool x134003_1, .int .i64 x134004_1, .string x134005_1, .bool x134006_1, .int .i64 x134007_1, .string x134008_1]) ?_ 0 _ rfl; (with_reducible repeat (first | refine blk_drewN ?_ _ | refine blk_drew ?_ | refine blk_alloc ?_ _)); exact BK133.out) Try.underlying47 rfl (by kernel_rfl)) rfl ?_
    exact ⟨by first | rfl | (simp [errW_none, errW_some] <;> rfl) | (simp [*, errW_none, errW_some] <;> rfl), by repeat (first | (with_reducible first | exact HB.out | apply below_alloc | apply pw_below_drewN | apply below_drew1 | refine below_set ?_ GE133.out | refine below_set ?_ GE134.out) | exact HB.out)⟩
/-! ### sums_Fold_c: function 32 -/
/-- has a row no such column? -/
def noneB (r : List S37) (c : Int) : Bool := decide (c < 0) || decide ((r.length : Int) ≤ c)
theorem sums_none.is (r : List S37) (c : Int) : sums_none.f r c = some (noneB r c) := by
  unfold sums_none.f noneB
  by_cases h : c < 0 <;> simp [h]
def oneV (v : S37) : Sm := if v.f0 = true then ⟨1, 0, 0, z37, z37⟩ else ⟨1, v.f1, 1, v, v⟩
theorem sums_one.is (v : S37) : sums_one.f v.f0 v.f1 v.f2 = some (oneV v).tup := by
  unfold sums_one.f oneV
  split <;> rfl
def foldV (col : Int) (s : Sm) (rows : List (List S37)) : Sm := rows.foldl (fun s r => joinV s (oneV (rd_T37 r col))) s
theorem rdRow_at (l : List (List S37)) (n : Nat) (h : n < l.length) : rd_L7 l (n : Int) = l[n] := by
  simp [rd_L7, List.getD_eq_getElem?_getD, List.getElem?_eq_getElem h]
theorem sums_Fold.tells (col : Int) (l : List (List S37)) (hl : l.length ≤ 9223372036854775807) : ∀ (d k n : Nat) (a : Sm), n + d = l.length → d < k →
    sums_Fold.l0 k col l (l.length : Int) (n : Int) a.c a.s a.v a.lo.f0 a.lo.f1 a.lo.f2 a.hi.f0 a.hi.f1 a.hi.f2 = some (if (l.drop n).any (fun r => noneB r col) then zeroS.tup10 7 else (foldV col a (l.drop n)).tup10 0) := by
  intro d
  induction d with
  | zero =>
    intro k n a hn hk
    obtain ⟨k, rfl⟩ : ∃ m, k = m + 1 := ⟨k - 1, by omega⟩
    simp only [sums_Fold.l0]
    rw [if_neg (by omega), List.drop_eq_nil_of_le (by omega)]
    rfl
  | succ d ih =>
    intro k n a hn hk
    obtain ⟨k, rfl⟩ : ∃ m, k = m + 1 := ⟨k - 1, by omega⟩
    have hlt : n < l.length := by omega
    have hw : wrap64 ((n : Int) + 1) = ((n + 1 : Nat) : Int) := by unfold wrap64; omega
    simp only [sums_Fold.l0]
    rw [if_pos (by omega), if_pos (by omega), if_pos (by omega), hw, rdRow_at l n hlt, sums_none.is, List.drop_eq_getElem_cons hlt, List.any_cons]
    simp only [Option.bind_some]
    cases hb : noneB l[n] col with
    | true => rw [if_pos rfl, Bool.true_or, if_pos rfl]; rfl
    | false =>
      rw [if_neg (by decide), Bool.false_or]
      have h01 : 0 ≤ col ∧ col < (l[n].length : Int) := by
        simp only [noneB, Bool.or_eq_false_iff, decide_eq_false_iff_not] at hb
        omega
      rw [if_pos h01.1, if_pos h01.2, sums_one.is]
      simp only [Option.bind_some, Sm.tup, sums_Join_c.f]
      exact ih k (n + 1) (joinV a (oneV (rd_T37 l[n] col))) (by omega) (by omega)
theorem sums_Fold.is (col : Int) (l : List (List S37)) (hl : l.length ≤ 9223372036854775807) :
    sums_Fold.f (l.length + 1) l col = some (if l.any (fun r => noneB r col) then zeroS.tup10 7 else (foldV col zeroS l).tup10 0) := by
  have := sums_Fold.tells col l hl l.length (l.length + 1) 0 zeroS (by omega) (by omega)
  rw [List.drop_zero] at this
  exact this
def sums_Fold_c.f (l : List (List S37)) (col : Int) : Option (Int × Int × Int × Bool × Int × ByteArray × Bool × Int × ByteArray × Int) := some (if l.any (fun r => noneB r col) then zeroS.tup10 7 else (foldV col zeroS l).tup10 0)
theorem sums_Fold_c.calls (A0 : Option Addr) (c0 : Nat) (l0 : List (List (S37))) (a1 : Int) (r1 : Int) (r2 : Int) (r3 : Int) (r4 : Bool) (r5 : Int) (r6 : ByteArray) (r7 : Bool) (r8 : Int) (r9 : ByteArray) (r10 : Int) (w : World) (hr0 : Kd.C (Kd.slice 37 k37) w A0 l0.length l0) (hc0 : l0.length ≤ c0) (h : sums_Fold_c.f l0 a1 = some (r1, r2, r3, r4, r5, r6, r7, r8, r9, r10)) :
    Calls Try.prog 32 #[.slice A0 l0.length c0, .int .i64 a1] w fun e w' => e = .returned (.tuple #[.agg #[.int .i64 r1, .int .i64 r2, .int .i64 r3, .bool r4, .int .i64 r5, .string r6, .bool r7, .int .i64 r8, .string r9], .int .i64 r10]) ∧ Below w.heap.size w w' :=
  sums_Fold.calls _ A0 c0 l0 a1 r1 r2 r3 r4 r5 r6 r7 r8 r9 r10 w hr0 hc0 ((sums_Fold.is a1 l0 hr0.2.1).trans h)


end Go.Proofs.Ythlelhndmnkmjaa.Pr
