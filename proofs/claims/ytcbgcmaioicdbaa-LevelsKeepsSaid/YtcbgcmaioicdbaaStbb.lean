/- The walks of the library's stable sort at elements of type tithebarn/api.Part (8 cells each): what they leave is what the plain functions of Stab leave. (After the kit's walks of slices.SortFunc's family at structs.) -/
import Derived.Test.YtcbgcmaioicdbaaProg
import Derived.Test.YtcbgcmaioicdbaaStab
import Derived.Test.YtcbgcmaioicdbaaSwb
import Derived.Sort.WalkB2
import Derived.Sort.WalkB12
import Derived.Deep.LoopGhost
import Derived.Deep.DeepCutAuto
import Derived.Test.YtcbgcmaioicdbaaStba
namespace Go.Proofs.Ytcbgcmaioicdbaa.Stab
open Go.Shelf Go.RowKit Go.Lib Go.Sort
set_option linter.unusedVariables false
set_option linter.unusedSimpArgs false
variable {P : Program} {α : Type} [Inhabited α] {k : Nat}
set_option maxHeartbeats 8000000 in
set_option maxRecDepth 1000000 in
theorem symMerge1 (L : Lay P k) (enc : α → List Value) (cf : α → α → Int) (g : Nat) (cb : Array Value) (blk off cap : Nat) (w0 : World) (eg : ∀ args w, (callFunc g args).run P w = .ok (.enter g args) w) (hcmp : CmpB P g cb enc cf) (R : RowB enc k) (N a m b : Nat) (d : Array α) (w : World) (S : SWB enc k w0 blk off d w) (ham : a < m) (hmb : m < b) (hb : b ≤ d.size) (hsz : d.size < 4611686018427387904) (c1 : m - a = 1) :
    Calls P 59 #[.slice (some ⟨blk, off, none⟩) d.size cap, .int .i64 a, .int .i64 m, .int .i64 b, .func (.func g) #[] cb] w fun e w' => e = .returned (.tuple #[]) ∧ SWB enc k w0 blk off (symM (ltOf cf) (N + 1) a m b d) w' := by
  have mixed := L.mixed; have t0 := L.t0; have a0 := L.a0; have z0 := L.z0; have v0 := L.v0; have t3 := L.t3; have a3 := L.a3; have z3 := L.z3; have v3 := L.v3; have t4 := L.t4; have a4 := L.a4; have z4 := L.z4; have v4 := L.v4; have t74 := L.t74; have a74 := L.a74; have z74 := L.z74; have v74 := L.v74; have t22 := L.t22; have a22 := L.a22; have z22 := L.z22; have v22 := L.v22; have t52 := L.t52; have a52 := L.a52; have z52 := L.z52; have v52 := L.v52; have aE := L.aE; have zE := L.zE; have u0 := run_underlying L.t0; have u3 := run_underlying L.t3; have u4 := run_underlying L.t4; have u74 := run_underlying L.t74; have u22 := run_underlying L.t22; have u52 := run_underlying L.t52
  have HC : Aside _ := hcmp
  clear hcmp
  have S0 : Aside (SWB enc k w0 blk off d w) := S
  clear S
  have hz : (m : Int) - (a : Int) = 1 := by omega
  have HT : Aside (symM (ltOf cf) (N + 1) a m b d = upS (bs (fun h => ltOf cf d[h]! d[a]!) m b - 1 - a) a d) := by show _ = _; rw [symM, if_pos c1]
  go_enter L.f59, Try.ntmps59
  go_wp2
  go_loopg [10, 11] (b - m) (fun kx s10 s11 wr => ∃ (i j : Nat), s10 = .int .i64 i ∧ s11 = .int .i64 j ∧ m ≤ i ∧ i ≤ j ∧ j ≤ b ∧ j - i ≤ kx ∧ Aside (SWB enc k w0 blk off d wr) ∧ Hid (bs (fun h => ltOf cf d[h]! d[a]!) i j = bs (fun h => ltOf cf d[h]! d[a]!) m b))
  case atStart => exact ⟨m, b, rfl, rfl, Nat.le_refl _, by omega, Nat.le_refl _, Nat.le_refl _, S0, rfl⟩
  case round =>
    clear S0
    obtain ⟨i, j, rfl, rfl, hi, hij, hj, hkx, S1, HE⟩ := hrel
    by_cases hlt : i < j
    · have hltz : (i : Int) < (j : Int) := by omega
      cases hlv : ltOf cf d[(i + j) / 2]! d[a]! with
      | true => as_aux_lemma =>
        have HLV : Aside (ltOf cf d[(i + j) / 2]! d[a]! = true) := hlv
        have ea1t : (((i : Int) + (j : Int)) / 2).toNat = (i + j) / 2 := by omega
        have pa1t : (0 : Int) ≤ ((i : Int) + (j : Int)) / 2 := by omega
        have ba1t : ((i : Int) + (j : Int)) / 2 < (d.size : Int) := by omega
        have ra1t : IntKind.i64.wrap (((i : Int) + (j : Int)) / 2) = ((i : Int) + (j : Int)) / 2 := by rw [IntKind.wrap_i64]; omega
        have ec1t : ((a : Int)).toNat = a := by omega
        have pc1t : (0 : Int) ≤ (a : Int) := by omega
        have bc1t : (a : Int) < (d.size : Int) := by omega
        have rc1t : IntKind.i64.wrap ((a : Int)) = (a : Int) := by rw [IntKind.wrap_i64]; omega
        obtain ⟨x1t, hx1t⟩ : ∃ x, x = d[(i + j) / 2]! := ⟨_, rfl⟩
        obtain ⟨y1t, hy1t⟩ : ∃ x, x = d[a]! := ⟨_, rfl⟩
        have l1ta := S1.out.ld R P ((i + j) / 2) (by omega)
        have l1tb := S1.out.ld R P (a) (by omega)
        rw [← hx1t] at l1ta
        rw [← hy1t] at l1tb
        have hc1t := S1.out.cmp HC.out x1t y1t
        have hv1t : cf x1t y1t < 0 := by rw [hx1t, hy1t]; exact of_decide_eq_true hlv
        have hd1t : decide (cf x1t y1t < 0) = true := decide_eq_true hv1t
        clear hx1t hy1t
        clear hlv
        go_wp2_with fail
        refine wp_region_quiet_below (by assumption) (by kernel_rfl) ?_
        repeat (quiet_step (first | (go_at_fn g; refine Calls.below_of (hc1t _))))
        refine wpQuiet_nil ?_
        intro wrn hw'
        have hWq : Below wr.heap.size wr wrn := by
          obtain ⟨p_, hp_⟩ := hw'
          rw [hp_]
          exact p_.h
        clear hw'
        have S1n : Aside (SWB enc k w0 blk off d wrn) := S1.out.grown hWq
        clear l1ta l1tb hc1t S1 hWq
        (try simp only [] at *)
        go_wp2
        go_roundg (j - ((i + j) / 2 + 1))
        case measure => omega
        case rel =>
          have hp : (ltOf cf d[(i + j) / 2]! d[a]!) = true := by rw [HLV.out]
          have he := HE.out
          rw [bs, dif_pos hlt, if_pos hp] at he
          exact ⟨((i + j) / 2 + 1), j, by first | rfl | (congr 1; omega), by first | rfl | (congr 1; omega), by omega, by omega, by omega, by omega, S1n, he⟩
      | false => as_aux_lemma =>
        have HLV : Aside (ltOf cf d[(i + j) / 2]! d[a]! = false) := hlv
        have ea1f : (((i : Int) + (j : Int)) / 2).toNat = (i + j) / 2 := by omega
        have pa1f : (0 : Int) ≤ ((i : Int) + (j : Int)) / 2 := by omega
        have ba1f : ((i : Int) + (j : Int)) / 2 < (d.size : Int) := by omega
        have ra1f : IntKind.i64.wrap (((i : Int) + (j : Int)) / 2) = ((i : Int) + (j : Int)) / 2 := by rw [IntKind.wrap_i64]; omega
        have ec1f : ((a : Int)).toNat = a := by omega
        have pc1f : (0 : Int) ≤ (a : Int) := by omega
        have bc1f : (a : Int) < (d.size : Int) := by omega
        have rc1f : IntKind.i64.wrap ((a : Int)) = (a : Int) := by rw [IntKind.wrap_i64]; omega
        obtain ⟨x1f, hx1f⟩ : ∃ x, x = d[(i + j) / 2]! := ⟨_, rfl⟩
        obtain ⟨y1f, hy1f⟩ : ∃ x, x = d[a]! := ⟨_, rfl⟩
        have l1fa := S1.out.ld R P ((i + j) / 2) (by omega)
        have l1fb := S1.out.ld R P (a) (by omega)
        rw [← hx1f] at l1fa
        rw [← hy1f] at l1fb
        have hc1f := S1.out.cmp HC.out x1f y1f
        have hv1f : ¬ cf x1f y1f < 0 := by rw [hx1f, hy1f]; exact of_decide_eq_false hlv
        have hd1f : decide (cf x1f y1f < 0) = false := decide_eq_false hv1f
        clear hx1f hy1f
        clear hlv
        go_wp2_with fail
        refine wp_region_quiet_below (by assumption) (by kernel_rfl) ?_
        repeat (quiet_step (first | (go_at_fn g; refine Calls.below_of (hc1f _))))
        refine wpQuiet_nil ?_
        intro wrn hw'
        have hWq : Below wr.heap.size wr wrn := by
          obtain ⟨p_, hp_⟩ := hw'
          rw [hp_]
          exact p_.h
        clear hw'
        have S1n : Aside (SWB enc k w0 blk off d wrn) := S1.out.grown hWq
        clear l1fa l1fb hc1f S1 hWq
        (try simp only [] at *)
        go_wp2
        go_roundg (((i + j) / 2) - i)
        case measure => omega
        case rel =>
          have hp : (ltOf cf d[(i + j) / 2]! d[a]!) = false := by rw [HLV.out]
          have he := HE.out
          rw [bs, dif_pos hlt, if_neg (by rw [hp]; exact Bool.false_ne_true)] at he
          exact ⟨i, ((i + j) / 2), by first | rfl | (congr 1; omega), by first | rfl | (congr 1; omega), by omega, by omega, by omega, by omega, S1n, he⟩
    · obtain rfl : i = j := by omega
      have hltz : ¬ (i : Int) < (i : Int) := by omega
      have HQ : Aside (bs (fun h => ltOf cf d[h]! d[a]!) m b = i) := by
        have he := HE.out
        rw [bs, dif_neg hlt] at he
        exact he.symm
      clear HE
      go_wp2
      go_loopg [13] (i - 1 - a) (fun kx s13 wr2 => ∃ (q : Nat) (dk : Array α), s13 = .int .i64 q ∧ a ≤ q ∧ q ≤ i - 1 ∧ i - 1 - q ≤ kx ∧ dk.size = d.size ∧ Aside (SWB enc k w0 blk off dk wr2) ∧ Hid (upS (i - 1 - q) q dk = upS (i - 1 - a) a d))
      case atStart => exact ⟨a, d, rfl, Nat.le_refl _, by omega, Nat.le_refl _, rfl, S1, rfl⟩
      case round =>
        clear S1
        obtain ⟨q, dk, rfl, hq1, hq2, hkx2, hds, S1, HE⟩ := hrel
        by_cases hlq : q < i - 1
        · have hlqz : (q : Int) < (i : Int) - 1 := by omega
          go_wp2_with fail
          have ea2 : ((q : Int)).toNat = q := by omega
          have pa2 : (0 : Int) ≤ (q : Int) := by omega
          have ba2 : (q : Int) < (d.size : Int) := by omega
          have ra2 : IntKind.i64.wrap ((q : Int)) = (q : Int) := by rw [IntKind.wrap_i64]; omega
          have ec2 : ((q : Int) + 1).toNat = q + 1 := by omega
          have pc2 : (0 : Int) ≤ (q : Int) + 1 := by omega
          have bc2 : (q : Int) + 1 < (d.size : Int) := by omega
          have rc2 : IntKind.i64.wrap ((q : Int) + 1) = (q : Int) + 1 := by rw [IntKind.wrap_i64]; omega
          have S2 : Aside (SWB enc k w0 blk off (swp dk (q) (q + 1)) ((wr.drew.setCells blk (off + (q) * k) (enc dk[q + 1]!)).setCells blk (off + (q + 1) * k) (enc dk[q]!))) := S1.out.swapped R (q) (q + 1) (by omega) (by omega)
          have l2a := S1.out.ld1 R P (q) (by omega)
          have l2b := S1.out.ld1 R P (q + 1) (by omega)
          have s2a := S1.out.st1 R P (q) (by omega) dk[q + 1]!
          have s2b := S1.out.st2 R P (q) (q + 1) (by omega) (by omega) dk[q + 1]! dk[q]!
          have n2a : (enc dk[q]!).length = k := R.hk _
          have n2b : (enc dk[q + 1]!).length = k := R.hk _
          generalize enc dk[q]! = cI2 at S2 l2a s2b n2a
          generalize enc dk[q + 1]! = cJ2 at S2 l2b s2a s2b n2b
          clear S1
          go_wp2_with fail
          go_big_region_o
          clear l2a l2b s2a s2b
          generalize (wr.drew.setCells blk (off + (q) * k) cJ2).setCells blk (off + (q + 1) * k) cI2 = w2 at S2 ⊢
          go_wp2
          go_roundg (i - 1 - (q + 1))
          case measure => omega
          case rel =>
            have he := HE.out
            rw [show i - 1 - q = (i - 1 - (q + 1)) + 1 by omega, upS] at he
            exact ⟨q + 1, swp dk q (q + 1), by go_num, by omega, by omega, by omega, by rw [size_swp]; exact hds, S2, he⟩
        · obtain rfl : q = i - 1 := by omega
          have hlqz : ¬ ((i - 1 : Nat) : Int) < (i : Int) - 1 := by omega
          go_wp2
          (try simp only [Exit.inBlock, Exit.then]); refine bodyPost_ret (results_none rfl _ _ _) rfl ?_
          refine ⟨rfl, ?_⟩
          have he := HE.out
          rw [Nat.sub_self] at he
          rw [HT.out, HQ.out, ← he]
          exact S1.out
set_option maxHeartbeats 8000000 in
set_option maxRecDepth 1000000 in
theorem symMerge2 (L : Lay P k) (enc : α → List Value) (cf : α → α → Int) (g : Nat) (cb : Array Value) (blk off cap : Nat) (w0 : World) (eg : ∀ args w, (callFunc g args).run P w = .ok (.enter g args) w) (hcmp : CmpB P g cb enc cf) (R : RowB enc k) (N a m b : Nat) (d : Array α) (w : World) (S : SWB enc k w0 blk off d w) (ham : a < m) (hmb : m < b) (hb : b ≤ d.size) (hsz : d.size < 4611686018427387904) (c1 : ¬ m - a = 1) (c2 : b - m = 1) :
    Calls P 59 #[.slice (some ⟨blk, off, none⟩) d.size cap, .int .i64 a, .int .i64 m, .int .i64 b, .func (.func g) #[] cb] w fun e w' => e = .returned (.tuple #[]) ∧ SWB enc k w0 blk off (symM (ltOf cf) (N + 1) a m b d) w' := by
  have mixed := L.mixed; have t0 := L.t0; have a0 := L.a0; have z0 := L.z0; have v0 := L.v0; have t3 := L.t3; have a3 := L.a3; have z3 := L.z3; have v3 := L.v3; have t4 := L.t4; have a4 := L.a4; have z4 := L.z4; have v4 := L.v4; have t74 := L.t74; have a74 := L.a74; have z74 := L.z74; have v74 := L.v74; have t22 := L.t22; have a22 := L.a22; have z22 := L.z22; have v22 := L.v22; have t52 := L.t52; have a52 := L.a52; have z52 := L.z52; have v52 := L.v52; have aE := L.aE; have zE := L.zE; have u0 := run_underlying L.t0; have u3 := run_underlying L.t3; have u4 := run_underlying L.t4; have u74 := run_underlying L.t74; have u22 := run_underlying L.t22; have u52 := run_underlying L.t52
  have HC : Aside _ := hcmp
  clear hcmp
  have S0 : Aside (SWB enc k w0 blk off d w) := S
  clear S
  have hz : ((m : Int) - (a : Int) == 1) = false := by simp only [beq_eq_false_iff_ne]; omega
  have hz2 : (b : Int) - (m : Int) = 1 := by omega
  have HT : Aside (symM (ltOf cf) (N + 1) a m b d = dnS (m - bs (fun h => !ltOf cf d[m]! d[h]!) a m) m d) := by show _ = _; rw [symM, if_neg c1, if_pos c2]
  go_enter L.f59, Try.ntmps59
  go_wp2
  go_loopg [14, 15] (m - a) (fun kx s14 s15 wr => ∃ (i j : Nat), s14 = .int .i64 i ∧ s15 = .int .i64 j ∧ a ≤ i ∧ i ≤ j ∧ j ≤ m ∧ j - i ≤ kx ∧ Aside (SWB enc k w0 blk off d wr) ∧ Hid (bs (fun h => !ltOf cf d[m]! d[h]!) i j = bs (fun h => !ltOf cf d[m]! d[h]!) a m))
  case atStart => exact ⟨a, m, rfl, rfl, Nat.le_refl _, by omega, Nat.le_refl _, Nat.le_refl _, S0, rfl⟩
  case round =>
    clear S0
    obtain ⟨i, j, rfl, rfl, hi, hij, hj, hkx, S1, HE⟩ := hrel
    by_cases hlt : i < j
    · have hltz : (i : Int) < (j : Int) := by omega
      cases hlv : ltOf cf d[m]! d[(i + j) / 2]! with
      | true => as_aux_lemma =>
        have HLV : Aside (ltOf cf d[m]! d[(i + j) / 2]! = true) := hlv
        have ea3t : ((m : Int)).toNat = m := by omega
        have pa3t : (0 : Int) ≤ (m : Int) := by omega
        have ba3t : (m : Int) < (d.size : Int) := by omega
        have ra3t : IntKind.i64.wrap ((m : Int)) = (m : Int) := by rw [IntKind.wrap_i64]; omega
        have ec3t : (((i : Int) + (j : Int)) / 2).toNat = (i + j) / 2 := by omega
        have pc3t : (0 : Int) ≤ ((i : Int) + (j : Int)) / 2 := by omega
        have bc3t : ((i : Int) + (j : Int)) / 2 < (d.size : Int) := by omega
        have rc3t : IntKind.i64.wrap (((i : Int) + (j : Int)) / 2) = ((i : Int) + (j : Int)) / 2 := by rw [IntKind.wrap_i64]; omega
        obtain ⟨x3t, hx3t⟩ : ∃ x, x = d[m]! := ⟨_, rfl⟩
        obtain ⟨y3t, hy3t⟩ : ∃ x, x = d[(i + j) / 2]! := ⟨_, rfl⟩
        have l3ta := S1.out.ld R P (m) (by omega)
        have l3tb := S1.out.ld R P ((i + j) / 2) (by omega)
        rw [← hx3t] at l3ta
        rw [← hy3t] at l3tb
        have hc3t := S1.out.cmp HC.out x3t y3t
        have hv3t : cf x3t y3t < 0 := by rw [hx3t, hy3t]; exact of_decide_eq_true hlv
        have hd3t : decide (cf x3t y3t < 0) = true := decide_eq_true hv3t
        clear hx3t hy3t
        clear hlv
        go_wp2_with fail
        refine wp_region_quiet_below (by assumption) (by kernel_rfl) ?_
        repeat (quiet_step (first | (go_at_fn g; refine Calls.below_of (hc3t _))))
        refine wpQuiet_nil ?_
        intro wrn hw'
        have hWq : Below wr.heap.size wr wrn := by
          obtain ⟨p_, hp_⟩ := hw'
          rw [hp_]
          exact p_.h
        clear hw'
        have S1n : Aside (SWB enc k w0 blk off d wrn) := S1.out.grown hWq
        clear l3ta l3tb hc3t S1 hWq
        (try simp only [] at *)
        go_wp2
        go_roundg (((i + j) / 2) - i)
        case measure => omega
        case rel =>
          have hp : (!ltOf cf d[m]! d[(i + j) / 2]!) = false := by rw [HLV.out]; rfl
          have he := HE.out
          rw [bs, dif_pos hlt, if_neg (by rw [hp]; exact Bool.false_ne_true)] at he
          exact ⟨i, ((i + j) / 2), by first | rfl | (congr 1; omega), by first | rfl | (congr 1; omega), by omega, by omega, by omega, by omega, S1n, he⟩
      | false => as_aux_lemma =>
        have HLV : Aside (ltOf cf d[m]! d[(i + j) / 2]! = false) := hlv
        have ea3f : ((m : Int)).toNat = m := by omega
        have pa3f : (0 : Int) ≤ (m : Int) := by omega
        have ba3f : (m : Int) < (d.size : Int) := by omega
        have ra3f : IntKind.i64.wrap ((m : Int)) = (m : Int) := by rw [IntKind.wrap_i64]; omega
        have ec3f : (((i : Int) + (j : Int)) / 2).toNat = (i + j) / 2 := by omega
        have pc3f : (0 : Int) ≤ ((i : Int) + (j : Int)) / 2 := by omega
        have bc3f : ((i : Int) + (j : Int)) / 2 < (d.size : Int) := by omega
        have rc3f : IntKind.i64.wrap (((i : Int) + (j : Int)) / 2) = ((i : Int) + (j : Int)) / 2 := by rw [IntKind.wrap_i64]; omega
        obtain ⟨x3f, hx3f⟩ : ∃ x, x = d[m]! := ⟨_, rfl⟩
        obtain ⟨y3f, hy3f⟩ : ∃ x, x = d[(i + j) / 2]! := ⟨_, rfl⟩
        have l3fa := S1.out.ld R P (m) (by omega)
        have l3fb := S1.out.ld R P ((i + j) / 2) (by omega)
        rw [← hx3f] at l3fa
        rw [← hy3f] at l3fb
        have hc3f := S1.out.cmp HC.out x3f y3f
        have hv3f : ¬ cf x3f y3f < 0 := by rw [hx3f, hy3f]; exact of_decide_eq_false hlv
        have hd3f : decide (cf x3f y3f < 0) = false := decide_eq_false hv3f
        clear hx3f hy3f
        clear hlv
        go_wp2_with fail
        refine wp_region_quiet_below (by assumption) (by kernel_rfl) ?_
        repeat (quiet_step (first | (go_at_fn g; refine Calls.below_of (hc3f _))))
        refine wpQuiet_nil ?_
        intro wrn hw'
        have hWq : Below wr.heap.size wr wrn := by
          obtain ⟨p_, hp_⟩ := hw'
          rw [hp_]
          exact p_.h
        clear hw'
        have S1n : Aside (SWB enc k w0 blk off d wrn) := S1.out.grown hWq
        clear l3fa l3fb hc3f S1 hWq
        (try simp only [] at *)
        go_wp2
        go_roundg (j - ((i + j) / 2 + 1))
        case measure => omega
        case rel =>
          have hp : (!ltOf cf d[m]! d[(i + j) / 2]!) = true := by rw [HLV.out]; rfl
          have he := HE.out
          rw [bs, dif_pos hlt, if_pos hp] at he
          exact ⟨((i + j) / 2 + 1), j, by first | rfl | (congr 1; omega), by first | rfl | (congr 1; omega), by omega, by omega, by omega, by omega, S1n, he⟩
    · obtain rfl : i = j := by omega
      have hltz : ¬ (i : Int) < (i : Int) := by omega
      have HQ : Aside (bs (fun h => !ltOf cf d[m]! d[h]!) a m = i) := by
        have he := HE.out
        rw [bs, dif_neg hlt] at he
        exact he.symm
      clear HE
      go_wp2
      go_loopg [17] (m - i) (fun kx s17 wr2 => ∃ (q : Nat) (dk : Array α), s17 = .int .i64 q ∧ i ≤ q ∧ q ≤ m ∧ q - i ≤ kx ∧ dk.size = d.size ∧ Aside (SWB enc k w0 blk off dk wr2) ∧ Hid (dnS (q - i) q dk = dnS (m - i) m d))
      case atStart => exact ⟨m, d, rfl, by omega, Nat.le_refl _, Nat.le_refl _, rfl, S1, rfl⟩
      case round =>
        clear S1
        obtain ⟨q, dk, rfl, hq1, hq2, hkx2, hds, S1, HE⟩ := hrel
        by_cases hlq : i < q
        · obtain ⟨q, rfl⟩ : ∃ q', q = q' + 1 := ⟨q - 1, by omega⟩
          have hlqz : (i : Int) < (q : Int) + 1 := by omega
          go_wp2_with fail
          have ea4 : ((q : Int) + 1).toNat = q + 1 := by omega
          have pa4 : (0 : Int) ≤ (q : Int) + 1 := by omega
          have ba4 : (q : Int) + 1 < (d.size : Int) := by omega
          have ra4 : IntKind.i64.wrap ((q : Int) + 1) = (q : Int) + 1 := by rw [IntKind.wrap_i64]; omega
          have ec4 : ((q : Int)).toNat = q := by omega
          have pc4 : (0 : Int) ≤ (q : Int) := by omega
          have bc4 : (q : Int) < (d.size : Int) := by omega
          have rc4 : IntKind.i64.wrap ((q : Int)) = (q : Int) := by rw [IntKind.wrap_i64]; omega
          have S2 : Aside (SWB enc k w0 blk off (swp dk (q + 1) (q)) ((wr.drew.setCells blk (off + (q + 1) * k) (enc dk[q]!)).setCells blk (off + (q) * k) (enc dk[q + 1]!))) := S1.out.swapped R (q + 1) (q) (by omega) (by omega)
          have l4a := S1.out.ld1 R P (q + 1) (by omega)
          have l4b := S1.out.ld1 R P (q) (by omega)
          have s4a := S1.out.st1 R P (q + 1) (by omega) dk[q]!
          have s4b := S1.out.st2 R P (q + 1) (q) (by omega) (by omega) dk[q]! dk[q + 1]!
          have n4a : (enc dk[q + 1]!).length = k := R.hk _
          have n4b : (enc dk[q]!).length = k := R.hk _
          generalize enc dk[q + 1]! = cI4 at S2 l4a s4b n4a
          generalize enc dk[q]! = cJ4 at S2 l4b s4a s4b n4b
          clear S1
          go_wp2_with fail
          go_big_region_o
          clear l4a l4b s4a s4b
          generalize (wr.drew.setCells blk (off + (q + 1) * k) cJ4).setCells blk (off + (q) * k) cI4 = w2 at S2 ⊢
          go_wp2
          go_roundg (q - i)
          case measure => omega
          case rel =>
            have he := HE.out
            rw [show q + 1 - i = (q - i) + 1 by omega, dnS] at he
            exact ⟨q, swp dk (q + 1) q, by first | rfl | go_num | (congr 1; omega), by omega, by omega, Nat.le_refl _, by rw [size_swp]; exact hds, S2, he⟩
        · obtain rfl : q = i := by omega
          have hlqz : ¬ (q : Int) < (q : Int) := by omega
          go_wp2
          (try simp only [Exit.inBlock, Exit.then]); refine bodyPost_ret (results_none rfl _ _ _) rfl ?_
          refine ⟨rfl, ?_⟩
          have he := HE.out
          rw [Nat.sub_self] at he
          rw [HT.out, HQ.out, ← he]
          exact S1.out
end Go.Proofs.Ytcbgcmaioicdbaa.Stab
