/- The walks of the library's stable sort at elements of type tithebarn/api.Part (8 cells each): what they leave is what the plain functions of Stab leave. (After the kit's walks of slices.SortFunc's family at structs.) -/
import Derived.Test.YtcbgcmaioicdbaaProg
import Derived.Test.YtcbgcmaioicdbaaStab
import Derived.Test.YtcbgcmaioicdbaaSwb
import Derived.Sort.WalkB2
import Derived.Sort.WalkB12
import Derived.Deep.LoopGhost
import Derived.Deep.DeepCutAuto
import Derived.Test.YtcbgcmaioicdbaaStba
namespace Go.Proofs.Ytcbgcmaioicdbaa.Stab
open Go.Shelf Go.RowKit Go.Lib Go.Sort
set_option linter.unusedVariables false
set_option linter.unusedSimpArgs false
variable {P : Program} {α : Type} [Inhabited α] {k : Nat}
set_option maxHeartbeats 8000000 in
set_option maxRecDepth 1000000 in
theorem symMerge3 (L : Lay P k) (enc : α → List Value) (cf : α → α → Int) (g : Nat) (cb : Array Value) (blk off cap : Nat) (w0 : World) (eg : ∀ args w, (callFunc g args).run P w = .ok (.enter g args) w) (hcmp : CmpB P g cb enc cf) (R : RowB enc k) (N a m b : Nat) (d : Array α) (w : World) (S : SWB enc k w0 blk off d w) (ham : a < m) (hmb : m < b) (hb : b ≤ d.size) (hsz : d.size < 4611686018427387904) (c1 : ¬ m - a = 1) (c2 : ¬ b - m = 1) (ih : ∀ (a' m' b' : Nat) (d : Array α) (w : World), b' - a' < b - a → SWB enc k w0 blk off d w → a' < m' → m' < b' → b' ≤ d.size → d.size < 4611686018427387904 →
    Calls P 59 #[.slice (some ⟨blk, off, none⟩) d.size cap, .int .i64 a', .int .i64 m', .int .i64 b', .func (.func g) #[] cb] w fun e w' => e = .returned (.tuple #[]) ∧ SWB enc k w0 blk off (symM (ltOf cf) N a' m' b' d) w') :
    Calls P 59 #[.slice (some ⟨blk, off, none⟩) d.size cap, .int .i64 a, .int .i64 m, .int .i64 b, .func (.func g) #[] cb] w fun e w' => e = .returned (.tuple #[]) ∧ SWB enc k w0 blk off (symM (ltOf cf) (N + 1) a m b d) w' := by
  have mixed := L.mixed; have t0 := L.t0; have a0 := L.a0; have z0 := L.z0; have v0 := L.v0; have t3 := L.t3; have a3 := L.a3; have z3 := L.z3; have v3 := L.v3; have t4 := L.t4; have a4 := L.a4; have z4 := L.z4; have v4 := L.v4; have t74 := L.t74; have a74 := L.a74; have z74 := L.z74; have v74 := L.v74; have t22 := L.t22; have a22 := L.a22; have z22 := L.z22; have v22 := L.v22; have t52 := L.t52; have a52 := L.a52; have z52 := L.z52; have v52 := L.v52; have aE := L.aE; have zE := L.zE; have u0 := run_underlying L.t0; have u3 := run_underlying L.t3; have u4 := run_underlying L.t4; have u74 := run_underlying L.t74; have u22 := run_underlying L.t22; have u52 := run_underlying L.t52
  have HC : Aside _ := hcmp
  clear hcmp
  have S0 : Aside (SWB enc k w0 blk off d w) := S
  clear S
  have IH : Aside _ := ih
  clear ih
  have hz : ((m : Int) - (a : Int) == 1) = false := by simp only [beq_eq_false_iff_ne]; omega
  have hz2 : ((b : Int) - (m : Int) == 1) = false := by simp only [beq_eq_false_iff_ne]; omega
  have HT : Aside (symM (ltOf cf) (N + 1) a m b d = (let d1 := smRot (ltOf cf) a m b d; let d2 := if a < smS (ltOf cf) a m b d ∧ smS (ltOf cf) a m b d < (a + b) / 2 then symM (ltOf cf) N a (smS (ltOf cf) a m b d) ((a + b) / 2) d1 else d1; if (a + b) / 2 < smE (ltOf cf) a m b d ∧ smE (ltOf cf) a m b d < b then symM (ltOf cf) N ((a + b) / 2) (smE (ltOf cf) a m b d) b d2 else d2)) := by show _ = _; rw [symM, if_neg c1, if_neg c2]
  obtain ⟨mid, hmid⟩ : ∃ mid, (a + b) / 2 = mid := ⟨_, rfl⟩
  have hmz : ((a : Int) + (b : Int)) / 2 = (mid : Int) := by omega
  have hm1 : a < mid := by omega
  have hm2 : mid < b := by omega
  have hm3 : 2 * mid ≤ a + b := by omega
  have hm4 : a + b ≤ 2 * mid + 1 := by omega
  have HM : Aside ((a + b) / 2 = mid) := hmid
  clear hmid
  have enR : ∀ args w, (callFunc 62 args).run P w = .ok (.enter 62 args) w := enters_of L.f62 (by kernel_rfl) rfl
  have enS : ∀ args w, (callFunc 59 args).run P w = .ok (.enter 59 args) w := enters_of L.f59 (by kernel_rfl) rfl
  go_enter L.f59, Try.ntmps59
  go_upto_if 140 with fail
  go_cut [20, 21] (fun s20 s21 wc => s20 = .int .i64 (sm0 a m b : Nat) ∧ s21 = .int .i64 (smr a m b : Nat) ∧ wc = w)
  case first => as_aux_lemma =>
    by_cases hmm : mid < m
    · have hmmz : (mid : Int) < (m : Int) := by omega
      have e0 : sm0 a m b = mid + m - b := by unfold sm0; rw [HM.out, if_pos hmm]
      have e1 : smr a m b = mid := by unfold smr; rw [HM.out, if_pos hmm]
      have ee : Aside (sm0 a m b = mid + m - b ∧ smr a m b = mid) := ⟨e0, e1⟩
      clear e0 e1
      go_wp2_with fail
      go_meet
      case rel => exact ⟨by rw [ee.out.1]; congr 1; omega, by rw [ee.out.2], rfl⟩
    · have hmmz : ¬ (mid : Int) < (m : Int) := by omega
      have e0 : sm0 a m b = a := by unfold sm0; rw [HM.out, if_neg hmm]
      have e1 : smr a m b = m := by unfold smr; rw [HM.out, if_neg hmm]
      have ee : Aside (sm0 a m b = a ∧ smr a m b = m) := ⟨e0, e1⟩
      clear e0 e1
      go_wp2_with fail
      go_meet
      case rel => exact ⟨by rw [ee.out.1], by rw [ee.out.2], rfl⟩
  case rest =>
    obtain ⟨rfl, rfl, rfl⟩ := hcut
    have HS : Aside (smS (ltOf cf) a m b d = bs (fun c => !ltOf cf d[mid + m - 1 - c]! d[c]!) (sm0 a m b) (smr a m b)) := by show _ = _; unfold smS; rw [HM.out]
    have bnd : a ≤ sm0 a m b ∧ sm0 a m b ≤ smr a m b ∧ smr a m b ≤ mid ∧ smr a m b ≤ m ∧ mid + m ≤ b + sm0 a m b := by
      unfold sm0 smr; rw [HM.out]; split <;> omega
    generalize sm0 a m b = s0 at HS bnd ⊢
    generalize smr a m b = r0 at HS bnd ⊢
    obtain ⟨bd1, bd2, bd3, bd4, bd5⟩ := bnd
    go_wp2
    go_loopg [20, 21] (r0 - s0) (fun kx s20 s21 wr => ∃ (s r : Nat), s20 = .int .i64 s ∧ s21 = .int .i64 r ∧ s0 ≤ s ∧ s ≤ r ∧ r ≤ r0 ∧ r - s ≤ kx ∧ Aside (SWB enc k w0 blk off d wr) ∧ Hid (bs (fun c => !ltOf cf d[mid + m - 1 - c]! d[c]!) s r = bs (fun c => !ltOf cf d[mid + m - 1 - c]! d[c]!) s0 r0))
    case atStart => exact ⟨s0, r0, rfl, rfl, Nat.le_refl _, bd2, Nat.le_refl _, Nat.le_refl _, S0, rfl⟩
    case round =>
      clear S0
      obtain ⟨s, r, rfl, rfl, hs0, hsr, hr0, hkx, S1, HE⟩ := hrel
      by_cases hlt : s < r
      · have hltz : (s : Int) < (r : Int) := by omega
        obtain ⟨pc, hpc⟩ : ∃ pc, mid + m - 1 - (s + r) / 2 = pc := ⟨_, rfl⟩
        have hpz : (mid : Int) + (m : Int) - 1 - ((s : Int) + (r : Int)) / 2 = (pc : Int) := by omega
        have hpb : pc < d.size := by omega
        have HPC : Aside (mid + m - 1 - (s + r) / 2 = pc) := hpc
        clear hpc
        cases hlv : ltOf cf d[pc]! d[(s + r) / 2]! with
        | true => as_aux_lemma =>
          have HLV : Aside (ltOf cf d[pc]! d[(s + r) / 2]! = true) := hlv
          have ea5t : ((pc : Int)).toNat = pc := by omega
          have pa5t : (0 : Int) ≤ (pc : Int) := by omega
          have ba5t : (pc : Int) < (d.size : Int) := by omega
          have ra5t : IntKind.i64.wrap ((pc : Int)) = (pc : Int) := by rw [IntKind.wrap_i64]; omega
          have ec5t : (((s : Int) + (r : Int)) / 2).toNat = (s + r) / 2 := by omega
          have pc5t : (0 : Int) ≤ ((s : Int) + (r : Int)) / 2 := by omega
          have bc5t : ((s : Int) + (r : Int)) / 2 < (d.size : Int) := by omega
          have rc5t : IntKind.i64.wrap (((s : Int) + (r : Int)) / 2) = ((s : Int) + (r : Int)) / 2 := by rw [IntKind.wrap_i64]; omega
          obtain ⟨x5t, hx5t⟩ : ∃ x, x = d[pc]! := ⟨_, rfl⟩
          obtain ⟨y5t, hy5t⟩ : ∃ x, x = d[(s + r) / 2]! := ⟨_, rfl⟩
          have l5ta := S1.out.ld R P (pc) (by omega)
          have l5tb := S1.out.ld R P ((s + r) / 2) (by omega)
          rw [← hx5t] at l5ta
          rw [← hy5t] at l5tb
          have hc5t := S1.out.cmp HC.out x5t y5t
          have hv5t : cf x5t y5t < 0 := by rw [hx5t, hy5t]; exact of_decide_eq_true hlv
          have hd5t : decide (cf x5t y5t < 0) = true := decide_eq_true hv5t
          clear hx5t hy5t
          clear hlv
          go_wp2_with fail
          refine wp_region_quiet_below (by assumption) (by kernel_rfl) ?_
          repeat (quiet_step (first | (go_at_fn g; refine Calls.below_of (hc5t _))))
          refine wpQuiet_nil ?_
          intro wrn hw'
          have hWq : Below wr.heap.size wr wrn := by
            obtain ⟨p_, hp_⟩ := hw'
            rw [hp_]
            exact p_.h
          clear hw'
          have S1n : Aside (SWB enc k w0 blk off d wrn) := S1.out.grown hWq
          clear l5ta l5tb hc5t S1 hWq
          (try simp only [] at *)
          go_wp2
          go_roundg (((s + r) / 2) - s)
          case measure => omega
          case rel =>
            have hp : (!ltOf cf d[mid + m - 1 - (s + r) / 2]! d[(s + r) / 2]!) = false := by rw [HPC.out, HLV.out]; rfl
            have he := HE.out
            rw [bs, dif_pos hlt, if_neg (by rw [hp]; exact Bool.false_ne_true)] at he
            exact ⟨s, ((s + r) / 2), by first | rfl | (congr 1; omega), by first | rfl | (congr 1; omega), by omega, by omega, by omega, by omega, S1n, he⟩
        | false => as_aux_lemma =>
          have HLV : Aside (ltOf cf d[pc]! d[(s + r) / 2]! = false) := hlv
          have ea5f : ((pc : Int)).toNat = pc := by omega
          have pa5f : (0 : Int) ≤ (pc : Int) := by omega
          have ba5f : (pc : Int) < (d.size : Int) := by omega
          have ra5f : IntKind.i64.wrap ((pc : Int)) = (pc : Int) := by rw [IntKind.wrap_i64]; omega
          have ec5f : (((s : Int) + (r : Int)) / 2).toNat = (s + r) / 2 := by omega
          have pc5f : (0 : Int) ≤ ((s : Int) + (r : Int)) / 2 := by omega
          have bc5f : ((s : Int) + (r : Int)) / 2 < (d.size : Int) := by omega
          have rc5f : IntKind.i64.wrap (((s : Int) + (r : Int)) / 2) = ((s : Int) + (r : Int)) / 2 := by rw [IntKind.wrap_i64]; omega
          obtain ⟨x5f, hx5f⟩ : ∃ x, x = d[pc]! := ⟨_, rfl⟩
          obtain ⟨y5f, hy5f⟩ : ∃ x, x = d[(s + r) / 2]! := ⟨_, rfl⟩
          have l5fa := S1.out.ld R P (pc) (by omega)
          have l5fb := S1.out.ld R P ((s + r) / 2) (by omega)
          rw [← hx5f] at l5fa
          rw [← hy5f] at l5fb
          have hc5f := S1.out.cmp HC.out x5f y5f
          have hv5f : ¬ cf x5f y5f < 0 := by rw [hx5f, hy5f]; exact of_decide_eq_false hlv
          have hd5f : decide (cf x5f y5f < 0) = false := decide_eq_false hv5f
          clear hx5f hy5f
          clear hlv
          go_wp2_with fail
          refine wp_region_quiet_below (by assumption) (by kernel_rfl) ?_
          repeat (quiet_step (first | (go_at_fn g; refine Calls.below_of (hc5f _))))
          refine wpQuiet_nil ?_
          intro wrn hw'
          have hWq : Below wr.heap.size wr wrn := by
            obtain ⟨p_, hp_⟩ := hw'
            rw [hp_]
            exact p_.h
          clear hw'
          have S1n : Aside (SWB enc k w0 blk off d wrn) := S1.out.grown hWq
          clear l5fa l5fb hc5f S1 hWq
          (try simp only [] at *)
          go_wp2
          go_roundg (r - ((s + r) / 2 + 1))
          case measure => omega
          case rel =>
            have hp : (!ltOf cf d[mid + m - 1 - (s + r) / 2]! d[(s + r) / 2]!) = true := by rw [HPC.out, HLV.out]; rfl
            have he := HE.out
            rw [bs, dif_pos hlt, if_pos hp] at he
            exact ⟨((s + r) / 2 + 1), r, by first | rfl | (congr 1; omega), by first | rfl | (congr 1; omega), by omega, by omega, by omega, by omega, S1n, he⟩
      · obtain rfl : s = r := by omega
        have hltz : ¬ (s : Int) < (s : Int) := by omega
        have HQ : Aside (smS (ltOf cf) a m b d = s) := by
          have he := HE.out
          rw [bs, dif_neg hlt] at he
          exact HS.out.trans he.symm
        clear HE HS
        obtain ⟨E, hE⟩ : ∃ E, mid + m - s = E := ⟨_, rfl⟩
        have hEz : (mid : Int) + (m : Int) - (s : Int) = (E : Int) := by omega
        have HEE : Aside (smE (ltOf cf) a m b d = E) := by show _ = _; unfold smE; rw [HM.out, HQ.out]; exact hE
        have hEb : E ≤ b := by omega
        have hEm : m ≤ E := by omega
        have has : a ≤ s := by omega
        have hsm : s ≤ mid := by omega
        have hsm2 : s ≤ m := by omega
        clear hE
        go_upto_region 39 with fail
        go_cut [185] (fun sb wx => sb = .bool (decide (s < m ∧ m < E)) ∧ wx = wr)
        case first => as_aux_lemma =>
          by_cases q1 : s < m
          · have q1z : (s : Int) < (m : Int) := by omega
            by_cases q2 : m < E
            · have q2z : (m : Int) < (E : Int) := by omega
              go_wp2_with fail
              go_meet
              case rel => exact ⟨by rw [decide_eq_true (show s < m ∧ m < E from ⟨q1, q2⟩)], rfl⟩
            · have q2z : ¬ (m : Int) < (E : Int) := by omega
              go_wp2_with fail
              go_meet
              case rel => exact ⟨by rw [decide_eq_false (show ¬ (s < m ∧ m < E) from fun h => q2 h.2)], rfl⟩
          · have q1z : ¬ (s : Int) < (m : Int) := by omega
            go_wp2_with fail
            go_meet
            case rel => exact ⟨by rw [decide_eq_false (show ¬ (s < m ∧ m < E) from fun h => q1 h.1)], rfl⟩
        case rest =>
          obtain ⟨rfl, rfl⟩ := hcut
          go_upto_if 185 with fail
          go_cut [] (fun wx => Aside (SWB enc k w0 blk off (smRot (ltOf cf) a m b d) wx))
          case first => as_aux_lemma =>
            by_cases q : s < m ∧ m < E
            · have qz : decide (s < m ∧ m < E) = true := decide_eq_true q
              have hc := rotate L enc g cb blk off cap s m E d w0 wc R S1.out q.1 q.2 (by omega) hsz
              clear S1
              go_wp2_with (go_at_fn 62; refine hc.mono ?_; rintro e w1 ⟨rfl, Sx⟩)
              go_meet
              case rel =>
                show SWB _ _ _ _ _ _ _
                unfold smRot
                rw [HQ.out, HEE.out]
                rw [if_pos q]
                exact Sx
            · have qz : decide (s < m ∧ m < E) = false := decide_eq_false q
              go_wp2_with fail
              go_meet
              case rel =>
                show SWB _ _ _ _ _ _ _
                unfold smRot
                rw [HQ.out, HEE.out]
                rw [if_neg q]
                exact S1.out
          case rest =>
            clear S1
            have S2 : Aside _ := hcut
            clear hcut
            have hd1 : (smRot (ltOf cf) a m b d).size = d.size := size_smRot a m b d
            rw [HQ.out, HEE.out] at HT
            simp only [HM.out] at HT
            generalize smRot (ltOf cf) a m b d = d1 at S2 hd1 HT
            go_upto_region 41 with fail
            go_cut [199] (fun sb wx => sb = .bool (decide (a < s ∧ s < mid)) ∧ wx = wc)
            case first => as_aux_lemma =>
              by_cases q1 : a < s
              · have q1z : (a : Int) < (s : Int) := by omega
                by_cases q2 : s < mid
                · have q2z : (s : Int) < (mid : Int) := by omega
                  go_wp2_with fail
                  go_meet
                  case rel => exact ⟨by rw [decide_eq_true (show a < s ∧ s < mid from ⟨q1, q2⟩)], rfl⟩
                · have q2z : ¬ (s : Int) < (mid : Int) := by omega
                  go_wp2_with fail
                  go_meet
                  case rel => exact ⟨by rw [decide_eq_false (show ¬ (a < s ∧ s < mid) from fun h => q2 h.2)], rfl⟩
              · have q1z : ¬ (a : Int) < (s : Int) := by omega
                go_wp2_with fail
                go_meet
                case rel => exact ⟨by rw [decide_eq_false (show ¬ (a < s ∧ s < mid) from fun h => q1 h.1)], rfl⟩
            case rest =>
              obtain ⟨rfl, rfl⟩ := hcut
              go_upto_if 199 with fail
              go_cut [] (fun wx => Aside (SWB enc k w0 blk off (if a < s ∧ s < mid then symM (ltOf cf) N a s mid d1 else d1) wx))
              case first => as_aux_lemma =>
                by_cases q : a < s ∧ s < mid
                · have qz : decide (a < s ∧ s < mid) = true := decide_eq_true q
                  have hc := IH.out a s mid d1 wc (by omega) S2.out q.1 q.2 (by omega) (by omega)
                  rw [hd1] at hc
                  clear S2
                  go_wp2_with (go_at_fn 59; refine hc.mono ?_; rintro e w1 ⟨rfl, Sx⟩)
                  go_meet
                  case rel =>
                    show SWB _ _ _ _ _ _ _
                    rw [if_pos q]
                    exact Sx
                · have qz : decide (a < s ∧ s < mid) = false := decide_eq_false q
                  go_wp2_with fail
                  go_meet
                  case rel =>
                    show SWB _ _ _ _ _ _ _
                    rw [if_neg q]
                    exact S2.out
              case rest =>
                clear S2
                have S3 : Aside _ := hcut
                clear hcut
                have hd2 : (if a < s ∧ s < mid then symM (ltOf cf) N a s mid d1 else d1).size = d.size := by
                  split
                  · rw [size_symM]; exact hd1
                  · exact hd1
                generalize (if a < s ∧ s < mid then symM (ltOf cf) N a s mid d1 else d1) = d2 at S3 hd2 HT
                go_upto_region 43 with fail
                go_cut [213] (fun sb wx => sb = .bool (decide (mid < E ∧ E < b)) ∧ wx = wc)
                case first => as_aux_lemma =>
                  by_cases q1 : mid < E
                  · have q1z : (mid : Int) < (E : Int) := by omega
                    by_cases q2 : E < b
                    · have q2z : (E : Int) < (b : Int) := by omega
                      go_wp2_with fail
                      go_meet
                      case rel => exact ⟨by rw [decide_eq_true (show mid < E ∧ E < b from ⟨q1, q2⟩)], rfl⟩
                    · have q2z : ¬ (E : Int) < (b : Int) := by omega
                      go_wp2_with fail
                      go_meet
                      case rel => exact ⟨by rw [decide_eq_false (show ¬ (mid < E ∧ E < b) from fun h => q2 h.2)], rfl⟩
                  · have q1z : ¬ (mid : Int) < (E : Int) := by omega
                    go_wp2_with fail
                    go_meet
                    case rel => exact ⟨by rw [decide_eq_false (show ¬ (mid < E ∧ E < b) from fun h => q1 h.1)], rfl⟩
                case rest =>
                  obtain ⟨rfl, rfl⟩ := hcut
                  go_upto_if 213 with fail
                  by_cases q : mid < E ∧ E < b
                  · have qz : decide (mid < E ∧ E < b) = true := decide_eq_true q
                    have hc := IH.out mid E b d2 wc (by omega) S3.out q.1 q.2 (by omega) (by omega)
                    rw [hd2] at hc
                    rw [if_pos q] at HT
                    clear S3
                    go_wp2_with (go_at_fn 59; refine hc.mono ?_; rintro e w1 ⟨rfl, S4⟩)
                    go_end0
                    refine ⟨rfl, ?_⟩
                    rw [HT.out]
                    exact S4
                  · have qz : decide (mid < E ∧ E < b) = false := decide_eq_false q
                    rw [if_neg q] at HT
                    go_wp2_with fail
                    go_end0
                    refine ⟨rfl, ?_⟩
                    rw [HT.out]
                    exact S3.out
end Go.Proofs.Ytcbgcmaioicdbaa.Stab
