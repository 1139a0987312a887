/- The walks of the library's stable sort at elements of type tithebarn/api.Part (8 cells each): what they leave is what the plain functions of Stab leave. (After the kit's walks of slices.SortFunc's family at structs.) -/
import Derived.Test.YtcbgcmaioicdbaaProg
import Derived.Test.YtcbgcmaioicdbaaStab
import Derived.Test.YtcbgcmaioicdbaaSwb
import Derived.Sort.WalkB2
import Derived.Sort.WalkB12
import Derived.Deep.LoopGhost
import Derived.Deep.DeepCutAuto
namespace Go.Proofs.Ytcbgcmaioicdbaa.Stab
open Go.Shelf Go.RowKit Go.Lib Go.Sort
set_option linter.unusedVariables false
set_option linter.unusedSimpArgs false
structure Lay (P : Program) (k : Nat) : Prop where
  mixed : P.follows .mixedOrders = true
  f51 : P.funcs[51]? = some Try.f51
  f58 : P.funcs[58]? = some Try.f58
  f59 : P.funcs[59]? = some Try.f59
  f62 : P.funcs[62]? = some Try.f62
  f63 : P.funcs[63]? = some Try.f63
  f31 : P.funcs[31]? = some Try.f31
  t0 : P.underlying 0 = some (TypeDesc.tuple #[])
  a0 : ∀ w, (isAgg 0).run P w = .ok false w
  z0 : ∀ w, (Go.sizeOf 0).run P w = .ok 1 w
  v0 : ∀ w, (zeroValue 0).run P w = .ok (Value.tuple #[]) w
  t3 : P.underlying 3 = some (TypeDesc.int IntKind.i64)
  a3 : ∀ w, (isAgg 3).run P w = .ok false w
  z3 : ∀ w, (Go.sizeOf 3).run P w = .ok 1 w
  v3 : ∀ w, (zeroValue 3).run P w = .ok (Value.int IntKind.i64 0) w
  t4 : P.underlying 4 = some (TypeDesc.bool)
  a4 : ∀ w, (isAgg 4).run P w = .ok false w
  z4 : ∀ w, (Go.sizeOf 4).run P w = .ok 1 w
  v4 : ∀ w, (zeroValue 4).run P w = .ok (Value.bool false) w
  t74 : P.underlying 74 = some (TypeDesc.int IntKind.u64)
  a74 : ∀ w, (isAgg 74).run P w = .ok false w
  z74 : ∀ w, (Go.sizeOf 74).run P w = .ok 1 w
  v74 : ∀ w, (zeroValue 74).run P w = .ok (Value.int IntKind.u64 0) w
  t22 : P.underlying 22 = some (TypeDesc.slice 38)
  a22 : ∀ w, (isAgg 22).run P w = .ok false w
  z22 : ∀ w, (Go.sizeOf 22).run P w = .ok 1 w
  v22 : ∀ w, (zeroValue 22).run P w = .ok (Value.slice none 0 0) w
  t52 : P.underlying 52 = some (TypeDesc.func #[38, 38] #[3] false)
  a52 : ∀ w, (isAgg 52).run P w = .ok false w
  z52 : ∀ w, (Go.sizeOf 52).run P w = .ok 1 w
  v52 : ∀ w, (zeroValue 52).run P w = .ok (Value.nilFunc) w
  aE : ∀ w, (isAgg 38).run P w = .ok true w
  zE : ∀ w, (Go.sizeOf 38).run P w = .ok k w
theorem lay : Lay Try.prog 8 where
  mixed := by kernel_rfl
  f51 := Try.func51
  f58 := Try.func58
  f59 := Try.func59
  f62 := Try.func62
  f63 := Try.func63
  f31 := Try.func31
  t0 := Try.underlying0
  a0 := Try.isAgg0
  z0 := Try.sizeOf0
  v0 := Try.zeroValue0
  t3 := Try.underlying3
  a3 := Try.isAgg3
  z3 := Try.sizeOf3
  v3 := Try.zeroValue3
  t4 := Try.underlying4
  a4 := Try.isAgg4
  z4 := Try.sizeOf4
  v4 := Try.zeroValue4
  t74 := Try.underlying74
  a74 := Try.isAgg74
  z74 := Try.sizeOf74
  v74 := Try.zeroValue74
  t22 := Try.underlying22
  a22 := Try.isAgg22
  z22 := Try.sizeOf22
  v22 := Try.zeroValue22
  t52 := Try.underlying52
  a52 := Try.isAgg52
  z52 := Try.sizeOf52
  v52 := Try.zeroValue52
  aE := Try.isAgg38
  zE := Try.sizeOf38
variable {P : Program} {α : Type} [Inhabited α] {k : Nat}
set_option maxHeartbeats 8000000 in
set_option maxRecDepth 1000000 in
theorem swapRange (L : Lay P k) (enc : α → List Value) (g : Nat) (cb : Array Value) (blk off cap a b n : Nat) (d : Array α) (w0 w : World) (R : RowB enc k) (S : SWB enc k w0 blk off d w) (ha : a + n ≤ d.size) (hb : b + n ≤ d.size) (hsz : d.size < 4611686018427387904) :
    Calls P 63 #[.slice (some ⟨blk, off, none⟩) d.size cap, .int .i64 a, .int .i64 b, .int .i64 n, .func (.func g) #[] cb] w fun e w' => e = .returned (.tuple #[]) ∧ SWB enc k w0 blk off (swpR a b n 0 d) w' := by
  have mixed := L.mixed; have t0 := L.t0; have a0 := L.a0; have z0 := L.z0; have v0 := L.v0; have t3 := L.t3; have a3 := L.a3; have z3 := L.z3; have v3 := L.v3; have t4 := L.t4; have a4 := L.a4; have z4 := L.z4; have v4 := L.v4; have t74 := L.t74; have a74 := L.a74; have z74 := L.z74; have v74 := L.v74; have t22 := L.t22; have a22 := L.a22; have z22 := L.z22; have v22 := L.v22; have t52 := L.t52; have a52 := L.a52; have z52 := L.z52; have v52 := L.v52; have aE := L.aE; have zE := L.zE; have u0 := run_underlying L.t0; have u3 := run_underlying L.t3; have u4 := run_underlying L.t4; have u74 := run_underlying L.t74; have u22 := run_underlying L.t22; have u52 := run_underlying L.t52
  have S0 : Aside (SWB enc k w0 blk off d w) := S
  clear S
  go_enter L.f63, Try.ntmps63
  go_wp2
  go_loopg [10] n (fun kx s10 wr => ∃ (i : Nat) (dk : Array α), s10 = .int .i64 i ∧ i ≤ n ∧ n - i ≤ kx ∧ dk.size = d.size ∧ Aside (SWB enc k w0 blk off dk wr) ∧ Hid (swpR a b (n - i) i dk = swpR a b n 0 d))
  case atStart => exact ⟨0, d, rfl, Nat.zero_le _, by omega, rfl, S0, rfl⟩
  case round =>
    clear S0
    obtain ⟨i, dk, rfl, hin, hkx, hds, S1, heq⟩ := hrel
    by_cases hlt : i < n
    · have hltz : (i : Int) < (n : Int) := by omega
      go_wp2_with fail
      have ea1 : ((a : Int) + (i : Int)).toNat = a + i := by omega
      have pa1 : (0 : Int) ≤ (a : Int) + (i : Int) := by omega
      have ba1 : (a : Int) + (i : Int) < (d.size : Int) := by omega
      have ra1 : IntKind.i64.wrap ((a : Int) + (i : Int)) = (a : Int) + (i : Int) := by rw [IntKind.wrap_i64]; omega
      have ec1 : ((b : Int) + (i : Int)).toNat = b + i := by omega
      have pc1 : (0 : Int) ≤ (b : Int) + (i : Int) := by omega
      have bc1 : (b : Int) + (i : Int) < (d.size : Int) := by omega
      have rc1 : IntKind.i64.wrap ((b : Int) + (i : Int)) = (b : Int) + (i : Int) := by rw [IntKind.wrap_i64]; omega
      have S2 : Aside (SWB enc k w0 blk off (swp dk (a + i) (b + i)) ((wr.drew.setCells blk (off + (a + i) * k) (enc dk[b + i]!)).setCells blk (off + (b + i) * k) (enc dk[a + i]!))) := S1.out.swapped R (a + i) (b + i) (by omega) (by omega)
      have l1a := S1.out.ld1 R P (a + i) (by omega)
      have l1b := S1.out.ld1 R P (b + i) (by omega)
      have s1a := S1.out.st1 R P (a + i) (by omega) dk[b + i]!
      have s1b := S1.out.st2 R P (a + i) (b + i) (by omega) (by omega) dk[b + i]! dk[a + i]!
      have n1a : (enc dk[a + i]!).length = k := R.hk _
      have n1b : (enc dk[b + i]!).length = k := R.hk _
      generalize enc dk[a + i]! = cI1 at S2 l1a s1b n1a
      generalize enc dk[b + i]! = cJ1 at S2 l1b s1a s1b n1b
      clear S1
      go_wp2_with fail
      go_big_region_o
      clear l1a l1b s1a s1b
      generalize (wr.drew.setCells blk (off + (a + i) * k) cJ1).setCells blk (off + (b + i) * k) cI1 = w2 at S2 ⊢
      go_wp2
      go_roundg (n - (i + 1))
      case measure => omega
      case rel =>
        have he := heq.out
        rw [show n - i = (n - (i + 1)) + 1 by omega, swpR] at he
        exact ⟨i + 1, swp dk (a + i) (b + i), by go_num, by omega, by omega, by rw [size_swp]; exact hds, S2, he⟩
    · obtain rfl : i = n := by omega
      have hltz : ¬ (i : Int) < (i : Int) := by omega
      go_wp2
      go_end0
      refine ⟨rfl, ?_⟩
      have he := heq.out
      rw [Nat.sub_self] at he
      rw [← he]
      exact S1.out
set_option maxHeartbeats 8000000 in
set_option maxRecDepth 1000000 in
theorem rotate (L : Lay P k) (enc : α → List Value) (g : Nat) (cb : Array Value) (blk off cap a m b : Nat) (d : Array α) (w0 w : World) (R : RowB enc k) (S : SWB enc k w0 blk off d w) (ha : a < m) (hm : m < b) (hb : b ≤ d.size) (hsz : d.size < 4611686018427387904) :
    Calls P 62 #[.slice (some ⟨blk, off, none⟩) d.size cap, .int .i64 a, .int .i64 m, .int .i64 b, .func (.func g) #[] cb] w fun e w' => e = .returned (.tuple #[]) ∧ SWB enc k w0 blk off (rot m (m - a) (b - m) d) w' := by
  have mixed := L.mixed; have t0 := L.t0; have a0 := L.a0; have z0 := L.z0; have v0 := L.v0; have t3 := L.t3; have a3 := L.a3; have z3 := L.z3; have v3 := L.v3; have t4 := L.t4; have a4 := L.a4; have z4 := L.z4; have v4 := L.v4; have t74 := L.t74; have a74 := L.a74; have z74 := L.z74; have v74 := L.v74; have t22 := L.t22; have a22 := L.a22; have z22 := L.z22; have v22 := L.v22; have t52 := L.t52; have a52 := L.a52; have z52 := L.z52; have v52 := L.v52; have aE := L.aE; have zE := L.zE; have u0 := run_underlying L.t0; have u3 := run_underlying L.t3; have u4 := run_underlying L.t4; have u74 := run_underlying L.t74; have u22 := run_underlying L.t22; have u52 := run_underlying L.t52
  have S0 : Aside (SWB enc k w0 blk off d w) := S
  clear S
  have enF : ∀ args w, (callFunc 63 args).run P w = .ok (.enter 63 args) w := enters_of L.f63 (by kernel_rfl) rfl
  go_enter L.f62, Try.ntmps62
  go_wp2
  go_loopg [10, 11] (b - a) (fun kx s10 s11 wr => ∃ (i j : Nat) (dk : Array α), s10 = .int .i64 i ∧ s11 = .int .i64 j ∧ 0 < i ∧ 0 < j ∧ i ≤ m ∧ m + j ≤ d.size ∧ i + j ≤ kx ∧ dk.size = d.size ∧ Aside (SWB enc k w0 blk off dk wr) ∧ Hid (rot m i j dk = rot m (m - a) (b - m) d))
  case atStart => exact ⟨m - a, b - m, d, by congr 1; omega, by congr 1; omega, by omega, by omega, by omega, by omega, by omega, rfl, S0, rfl⟩
  case round =>
    clear S0
    obtain ⟨i, j, dk, rfl, rfl, hi0, hj0, him, hjm, hkx, hds, S1, heq⟩ := hrel
    by_cases hij : i = j
    · subst hij
      have hz : (i : Int) = (i : Int) := rfl
      have hc := swapRange L enc g cb blk off cap (m - i) m i dk w0 wr R S1.out (by omega) (by omega) (by omega)
      rw [hds, show ((m - i : Nat) : Int) = (m : Int) - (i : Int) by omega] at hc
      clear S1
      go_wp2_with (go_at_fn 63; refine hc.mono ?_; rintro e w1 ⟨rfl, S2⟩)
      go_end0
      refine ⟨rfl, ?_⟩
      have he := heq.out
      rw [rot, dif_neg (by omega), if_pos rfl] at he
      rw [← he]
      exact S2
    · have hz : ¬ (i : Int) = (j : Int) := by omega
      by_cases hgt : i > j
      · have hgz : (j : Int) < (i : Int) := by omega
        have hc := swapRange L enc g cb blk off cap (m - i) m j dk w0 wr R S1.out (by omega) (by omega) (by omega)
        rw [hds, show ((m - i : Nat) : Int) = (m : Int) - (i : Int) by omega] at hc
        clear S1
        go_wp2_with (go_at_fn 63; refine hc.mono ?_; rintro e w1 ⟨rfl, S2⟩)
        go_roundg (i - j + j)
        case measure => omega
        case rel =>
          have he := heq.out
          rw [rot, dif_neg (by omega), if_neg hij, if_pos hgt] at he
          exact ⟨i - j, j, _, by congr 1; omega, rfl, by omega, by omega, by omega, by omega, by omega, by rw [size_swpR]; exact hds, S2, he⟩
      · have hgz : ¬ (j : Int) < (i : Int) := by omega
        have hc := swapRange L enc g cb blk off cap (m - i) (m + j - i) i dk w0 wr R S1.out (by omega) (by omega) (by omega)
        rw [hds, show ((m - i : Nat) : Int) = (m : Int) - (i : Int) by omega, show ((m + j - i : Nat) : Int) = (m : Int) + (j : Int) - (i : Int) by omega] at hc
        clear S1
        go_wp2_with (go_at_fn 63; refine hc.mono ?_; rintro e w1 ⟨rfl, S2⟩)
        go_roundg (i + (j - i))
        case measure => omega
        case rel =>
          have he := heq.out
          rw [rot, dif_neg (by omega), if_neg hij, if_neg hgt] at he
          exact ⟨i, j - i, _, rfl, by congr 1; omega, by omega, by omega, by omega, by omega, by omega, by rw [size_swpR]; exact hds, S2, he⟩
set_option maxHeartbeats 8000000 in
set_option maxRecDepth 1000000 in
theorem insSort (L : Lay P k) (enc : α → List Value) (cf : α → α → Int) (g : Nat) (cb : Array Value) (blk off cap a b : Nat) (d : Array α) (w0 w : World) (eg : ∀ args w, (callFunc g args).run P w = .ok (.enter g args) w) (hcmp : CmpB P g cb enc cf) (R : RowB enc k) (S : SWB enc k w0 blk off d w) (hab : a ≤ b) (hb : b ≤ d.size) (hsz : d.size < 4611686018427387904) :
    Calls P 58 #[.slice (some ⟨blk, off, none⟩) d.size cap, .int .i64 a, .int .i64 b, .func (.func g) #[] cb] w fun e w' => e = .returned (.tuple #[]) ∧ SWB enc k w0 blk off (insertionSort (ltOf cf) d a b) w' := by
  have mixed := L.mixed; have t0 := L.t0; have a0 := L.a0; have z0 := L.z0; have v0 := L.v0; have t3 := L.t3; have a3 := L.a3; have z3 := L.z3; have v3 := L.v3; have t4 := L.t4; have a4 := L.a4; have z4 := L.z4; have v4 := L.v4; have t74 := L.t74; have a74 := L.a74; have z74 := L.z74; have v74 := L.v74; have t22 := L.t22; have a22 := L.a22; have z22 := L.z22; have v22 := L.v22; have t52 := L.t52; have a52 := L.a52; have z52 := L.z52; have v52 := L.v52; have aE := L.aE; have zE := L.zE; have u0 := run_underlying L.t0; have u3 := run_underlying L.t3; have u4 := run_underlying L.t4; have u74 := run_underlying L.t74; have u22 := run_underlying L.t22; have u52 := run_underlying L.t52
  have S0 : Aside (SWB enc k w0 blk off d w) := S
  clear S
  have HC : Aside _ := hcmp
  clear hcmp
  go_enter L.f58, Try.ntmps58
  go_wp2
  go_loopg [8] (b - a) (fun g1 vi wr => ∃ (i : Nat) (dk : Array α), vi = .int .i64 i ∧ a < i ∧ i ≤ b + 1 ∧ b + 1 - i ≤ g1 + 1 ∧ dk.size = d.size ∧ Aside (SWB enc k w0 blk off dk wr) ∧ Hid (insOuter (ltOf cf) a b i dk = insOuter (ltOf cf) a b (a + 1) d))
  case atStart => exact ⟨a + 1, d, by go_num, by omega, by omega, by omega, rfl, S0, rfl⟩
  case round =>
    clear S0
    obtain ⟨i, dk, rfl, hai, hib, hg1, hsk, S1, HO⟩ := hrel
    by_cases hlt : i < b
    · have hltz : (i : Int) < (b : Int) := by omega
      go_wp2
      go_loopg [9] i (fun g2 vj wr2 => ∃ (j : Nat) (dj : Array α), vj = .int .i64 j ∧ a ≤ j ∧ j ≤ i ∧ j ≤ g2 ∧ dj.size = d.size ∧ Aside (SWB enc k w0 blk off dj wr2) ∧ Hid (insInner (ltOf cf) a j dj = insInner (ltOf cf) a i dk))
      case atStart => exact ⟨i, dk, rfl, by omega, Nat.le_refl _, Nat.le_refl _, hsk, S1, rfl⟩
      case round =>
        clear S1
        obtain ⟨j, dj, rfl, haj, hji, hg2, hsj, S2, HI⟩ := hrel
        have OUT : Aside ((j ≤ a ∨ ltOf cf dj[j]! dj[j - 1]! = false) → Hid (insOuter (ltOf cf) a b (i + 1) dj = insOuter (ltOf cf) a b (a + 1) d)) := fun hs => by
          show _ = _
          rw [← HO.out, insOuter_go _ _ _ _ _ hlt, ← HI.out, insInner_stop _ _ _ _ hs]
        by_cases hja : a < j
        · obtain ⟨jp, rfl⟩ : ∃ jp, j = jp + 1 := ⟨j - 1, by omega⟩
          have hjaz : (a : Int) < (jp : Int) + 1 := by omega
          cases hlv : (ltOf cf) dj[jp + 1]! dj[jp]! with
          | true =>
            have HLV : Aside ((ltOf cf) dj[jp + 1]! dj[jp]! = true) := hlv
            have ea3 : ((jp : Int) + 1).toNat = jp + 1 := by omega
            have pa3 : (0 : Int) ≤ (jp : Int) + 1 := by omega
            have ba3 : (jp : Int) + 1 < (d.size : Int) := by omega
            have ra3 : IntKind.i64.wrap ((jp : Int) + 1) = (jp : Int) + 1 := by rw [IntKind.wrap_i64]; omega
            have ec3 : ((jp : Int)).toNat = jp := by omega
            have pc3 : (0 : Int) ≤ (jp : Int) := by omega
            have bc3 : (jp : Int) < (d.size : Int) := by omega
            have rc3 : IntKind.i64.wrap ((jp : Int)) = (jp : Int) := by rw [IntKind.wrap_i64]; omega
            obtain ⟨x3, hx3⟩ : ∃ x, x = dj[jp + 1]! := ⟨_, rfl⟩
            obtain ⟨y3, hy3⟩ : ∃ x, x = dj[jp]! := ⟨_, rfl⟩
            have l3a := S2.out.ld R P (jp + 1) (by omega)
            have l3b := S2.out.ld R P (jp) (by omega)
            rw [← hx3] at l3a
            rw [← hy3] at l3b
            have hc3 := S2.out.cmp HC.out x3 y3
            have hv3 : cf x3 y3 < 0 := by rw [hx3, hy3]; exact of_decide_eq_true hlv
            have hd3 : decide (cf x3 y3 < 0) = true := decide_eq_true hv3
            clear hx3 hy3
            clear hlv
            go_wp2_with fail
            refine wp_region_quiet_below (by assumption) (by kernel_rfl) ?_
            repeat (quiet_step (first | (go_at_fn g; refine Calls.below_of (hc3 _))))
            refine wpQuiet_nil ?_
            intro w3 hw'
            have hWq : Below wr.heap.size wr w3 := by
              obtain ⟨p_, hp_⟩ := hw'
              rw [hp_]
              exact p_.h
            clear hw'
            have S3 : Aside (SWB enc k w0 blk off dj w3) := S2.out.grown hWq
            clear l3a l3b hc3 S2 hWq
            (try simp only [] at *)
            go_wp2_with fail
            have ea4 : ((jp : Int) + 1).toNat = jp + 1 := by omega
            have pa4 : (0 : Int) ≤ (jp : Int) + 1 := by omega
            have ba4 : (jp : Int) + 1 < (d.size : Int) := by omega
            have ra4 : IntKind.i64.wrap ((jp : Int) + 1) = (jp : Int) + 1 := by rw [IntKind.wrap_i64]; omega
            have ec4 : ((jp : Int)).toNat = jp := by omega
            have pc4 : (0 : Int) ≤ (jp : Int) := by omega
            have bc4 : (jp : Int) < (d.size : Int) := by omega
            have rc4 : IntKind.i64.wrap ((jp : Int)) = (jp : Int) := by rw [IntKind.wrap_i64]; omega
            have S4 : Aside (SWB enc k w0 blk off (swp dj (jp + 1) (jp)) ((w3.drew.setCells blk (off + (jp + 1) * k) (enc dj[jp]!)).setCells blk (off + (jp) * k) (enc dj[jp + 1]!))) := S3.out.swapped R (jp + 1) (jp) (by omega) (by omega)
            have l4a := S3.out.ld1 R P (jp + 1) (by omega)
            have l4b := S3.out.ld1 R P (jp) (by omega)
            have s4a := S3.out.st1 R P (jp + 1) (by omega) dj[jp]!
            have s4b := S3.out.st2 R P (jp + 1) (jp) (by omega) (by omega) dj[jp]! dj[jp + 1]!
            have n4a : (enc dj[jp + 1]!).length = k := R.hk _
            have n4b : (enc dj[jp]!).length = k := R.hk _
            generalize enc dj[jp + 1]! = cI4 at S4 l4a s4b n4a
            generalize enc dj[jp]! = cJ4 at S4 l4b s4a s4b n4b
            clear S3
            go_wp2_with fail
            go_big_region_o
            clear l4a l4b s4a s4b
            generalize (w3.drew.setCells blk (off + (jp + 1) * k) cJ4).setCells blk (off + (jp) * k) cI4 = w4 at S4 ⊢
            go_wp2
            go_roundg jp
            case measure => omega
            case rel =>
              refine ⟨jp, swp dj (jp + 1) jp, by first | rfl | go_num | (congr 1; omega), by omega, by omega, Nat.le_refl _, by rw [size_swp]; exact hsj, S4, (show Hid _ from ?_)⟩
              show _ = _
              rw [← HI.out, insInner_go (ltOf cf) a (jp + 1) dj hja HLV.out]
              rfl
          | false =>
            have HLV : Aside ((ltOf cf) dj[jp + 1]! dj[jp]! = false) := hlv
            have ea5 : ((jp : Int) + 1).toNat = jp + 1 := by omega
            have pa5 : (0 : Int) ≤ (jp : Int) + 1 := by omega
            have ba5 : (jp : Int) + 1 < (d.size : Int) := by omega
            have ra5 : IntKind.i64.wrap ((jp : Int) + 1) = (jp : Int) + 1 := by rw [IntKind.wrap_i64]; omega
            have ec5 : ((jp : Int)).toNat = jp := by omega
            have pc5 : (0 : Int) ≤ (jp : Int) := by omega
            have bc5 : (jp : Int) < (d.size : Int) := by omega
            have rc5 : IntKind.i64.wrap ((jp : Int)) = (jp : Int) := by rw [IntKind.wrap_i64]; omega
            obtain ⟨x5, hx5⟩ : ∃ x, x = dj[jp + 1]! := ⟨_, rfl⟩
            obtain ⟨y5, hy5⟩ : ∃ x, x = dj[jp]! := ⟨_, rfl⟩
            have l5a := S2.out.ld R P (jp + 1) (by omega)
            have l5b := S2.out.ld R P (jp) (by omega)
            rw [← hx5] at l5a
            rw [← hy5] at l5b
            have hc5 := S2.out.cmp HC.out x5 y5
            have hv5 : ¬ cf x5 y5 < 0 := by rw [hx5, hy5]; exact of_decide_eq_false hlv
            have hd5 : decide (cf x5 y5 < 0) = false := decide_eq_false hv5
            clear hx5 hy5
            clear hlv
            go_wp2_with fail
            refine wp_region_quiet_below (by assumption) (by kernel_rfl) ?_
            repeat (quiet_step (first | (go_at_fn g; refine Calls.below_of (hc5 _))))
            refine wpQuiet_nil ?_
            intro w3 hw'
            have hWq : Below wr.heap.size wr w3 := by
              obtain ⟨p_, hp_⟩ := hw'
              rw [hp_]
              exact p_.h
            clear hw'
            have S3 : Aside (SWB enc k w0 blk off dj w3) := S2.out.grown hWq
            clear l5a l5b hc5 S2 hWq
            (try simp only [] at *)
            go_wp2
            go_roundg (b - (i + 1))
            case measure => omega
            case rel => exact ⟨i + 1, dj, by go_num, by omega, by omega, by omega, hsj, S3, OUT.out (Or.inr HLV.out)⟩
        · have hjaz : decide ((j : Int) > (a : Int)) = false := decide_eq_false (by omega)
          have hjaz' : ¬ (a : Int) < (j : Int) := by omega
          have S3 : Aside (SWB enc k w0 blk off dj wr.drew) := S2.out.drew
          clear S2
          go_wp2_with fail
          go_big_region_o
          all_goals go_wp2
          go_roundg (b - (i + 1))
          case measure => omega
          case rel => exact ⟨i + 1, dj, by go_num, by omega, by omega, by omega, hsj, S3, OUT.out (Or.inl (by omega))⟩
    · have hltz : ¬ (i : Int) < (b : Int) := by omega
      go_wp2
      go_end0
      refine ⟨rfl, ?_⟩
      have he := HO.out
      rw [insOuter_stop _ _ _ _ _ hlt] at he
      unfold insertionSort
      rw [← he]
      exact S1.out
end Go.Proofs.Ytcbgcmaioicdbaa.Stab
