/- The walks of the library's stable sort at elements of type tithebarn/api.Part (8 cells each): what they leave is what the plain functions of Stab leave. (After the kit's walks of slices.SortFunc's family at structs.) -/
import Derived.Test.YtcbgcmaioicdbaaProg
import Derived.Test.YtcbgcmaioicdbaaStab
import Derived.Test.YtcbgcmaioicdbaaSwb
import Derived.Sort.WalkB2
import Derived.Sort.WalkB12
import Derived.Deep.LoopGhost
import Derived.Deep.DeepCutAuto
import Derived.Test.YtcbgcmaioicdbaaStbb
import Derived.Test.YtcbgcmaioicdbaaStbc
namespace Go.Proofs.Ytcbgcmaioicdbaa.Stab
open Go.Shelf Go.RowKit Go.Lib Go.Sort
set_option linter.unusedVariables false
set_option linter.unusedSimpArgs false
variable {P : Program} {α : Type} [Inhabited α] {k : Nat}
theorem symMerge (L : Lay P k) (enc : α → List Value) (cf : α → α → Int) (g : Nat) (cb : Array Value) (blk off cap : Nat) (w0 : World) (eg : ∀ args w, (callFunc g args).run P w = .ok (.enter g args) w) (hcmp : CmpB P g cb enc cf) (R : RowB enc k) :
    ∀ (N a m b : Nat) (d : Array α) (w : World), b - a < N → SWB enc k w0 blk off d w → a < m → m < b → b ≤ d.size → d.size < 4611686018427387904 →
    Calls P 59 #[.slice (some ⟨blk, off, none⟩) d.size cap, .int .i64 a, .int .i64 m, .int .i64 b, .func (.func g) #[] cb] w fun e w' => e = .returned (.tuple #[]) ∧ SWB enc k w0 blk off (symM (ltOf cf) N a m b d) w' := by
  intro N
  induction N with
  | zero => intro _ _ _ _ _ h; exact absurd h (Nat.not_lt_zero _)
  | succ N ih =>
    intro a m b d w hN S ham hmb hb hsz
    by_cases c1 : m - a = 1
    · exact symMerge1 L enc cf g cb blk off cap w0 eg hcmp R N a m b d w S ham hmb hb hsz c1
    · by_cases c2 : b - m = 1
      · exact symMerge2 L enc cf g cb blk off cap w0 eg hcmp R N a m b d w S ham hmb hb hsz c1 c2
      · exact symMerge3 L enc cf g cb blk off cap w0 eg hcmp R N a m b d w S ham hmb hb hsz c1 c2 (fun a' m' b' d w h => ih a' m' b' d w (by omega))
set_option maxHeartbeats 8000000 in
set_option maxRecDepth 1000000 in
theorem stable (L : Lay P k) (enc : α → List Value) (cf : α → α → Int) (g : Nat) (cb : Array Value) (blk off cap : Nat) (d : Array α) (w0 w : World) (eg : ∀ args w, (callFunc g args).run P w = .ok (.enter g args) w) (hcmp : CmpB P g cb enc cf) (R : RowB enc k) (S : SWB enc k w0 blk off d w) (hO : SWO (ltOf cf)) (n : Nat) (hn : n = d.size) (hsz : d.size < 1152921504606846976) :
    Calls P 51 #[.slice (some ⟨blk, off, none⟩) d.size cap, .int .i64 n, .func (.func g) #[] cb] w fun e w' => e = .returned (.tuple #[]) ∧ SWB enc k w0 blk off (stab (ltOf cf) n d) w' := by
  have mixed := L.mixed; have t0 := L.t0; have a0 := L.a0; have z0 := L.z0; have v0 := L.v0; have t3 := L.t3; have a3 := L.a3; have z3 := L.z3; have v3 := L.v3; have t4 := L.t4; have a4 := L.a4; have z4 := L.z4; have v4 := L.v4; have t74 := L.t74; have a74 := L.a74; have z74 := L.z74; have v74 := L.v74; have t22 := L.t22; have a22 := L.a22; have z22 := L.z22; have v22 := L.v22; have t52 := L.t52; have a52 := L.a52; have z52 := L.z52; have v52 := L.v52; have aE := L.aE; have zE := L.zE; have u0 := run_underlying L.t0; have u3 := run_underlying L.t3; have u4 := run_underlying L.t4; have u74 := run_underlying L.t74; have u22 := run_underlying L.t22; have u52 := run_underlying L.t52
  have HC : Aside _ := hcmp
  clear hcmp
  have S0 : Aside (SWB enc k w0 blk off d w) := S
  clear S
  have enI : ∀ args w, (callFunc 58 args).run P w = .ok (.enter 58 args) w := enters_of L.f58 (by kernel_rfl) rfl
  have enS : ∀ args w, (callFunc 59 args).run P w = .ok (.enter 59 args) w := enters_of L.f59 (by kernel_rfl) rfl
  have hn1 : n ≤ d.size := Nat.le_of_eq hn
  clear hn
  go_enter L.f51, Try.ntmps51
  go_wp2
  go_loopg [7, 8] n (fun kx s7 s8 wr => ∃ (A : Nat) (dk : Array α), s7 = .int .i64 A ∧ s8 = .int .i64 ((A : Int) + 20) ∧ A ≤ n ∧ n - A ≤ kx ∧ dk.size = d.size ∧ Aside (SWB enc k w0 blk off dk wr) ∧ Hid (insB (ltOf cf) n A dk = insB (ltOf cf) n 0 d))
  case atStart => exact ⟨0, d, rfl, rfl, Nat.zero_le _, by omega, rfl, S0, rfl⟩
  case round =>
    clear S0
    obtain ⟨A, dk, rfl, rfl, hA, hkx, hds, S1, HE⟩ := hrel
    by_cases hle : A + 20 ≤ n
    · have hlez : (A : Int) + 20 ≤ (n : Int) := by omega
      have hc := insSort L enc cf g cb blk off cap A (A + 20) dk w0 wr eg HC.out R S1.out (by omega) (by omega) (by omega)
      rw [hds, show ((A + 20 : Nat) : Int) = (A : Int) + 20 by omega] at hc
      clear S1
      go_wp2_with (go_at_fn 58; refine hc.mono ?_; rintro e w1 ⟨rfl, S2⟩)
      go_roundg (n - (A + 20))
      case measure => omega
      case rel =>
        have he := HE.out
        rw [insB, if_pos hle] at he
        exact ⟨A + 20, _, by congr 1, by congr 1, by omega, by omega, ((insertionSort_holds hO dk A (A + 20) (by omega) (by omega)).1.1).trans hds, S2, he⟩
    · have hlez : ¬ (A : Int) + 20 ≤ (n : Int) := by omega
      have hc := insSort L enc cf g cb blk off cap A n dk w0 wr eg HC.out R S1.out hA (by omega) (by omega)
      rw [hds] at hc
      have HB : Aside (insertionSort (ltOf cf) dk A n = insB (ltOf cf) n 0 d) := by
        have he := HE.out
        rw [insB, if_neg hle] at he
        exact he
      have hsB : (insertionSort (ltOf cf) dk A n).size = d.size := ((insertionSort_holds hO dk A n hA (by omega)).1.1).trans hds
      clear S1 HE
      generalize insertionSort (ltOf cf) dk A n = d1 at hc HB hsB
      go_wp2_with (go_at_fn 58; refine hc.mono ?_; rintro e w1 ⟨rfl, S2⟩)
      have S3 : Aside _ := S2
      clear S2 hc
      go_loopg [6, 7, 8, 9] n (fun kx s6 s7 s8 s9 wr => ∃ (s : Nat) (dk : Array α), s6 = .int .i64 s ∧ 20 ≤ s ∧ n - s ≤ kx ∧ dk.size = d.size ∧ Aside (SWB enc k w0 blk off dk wr) ∧ Hid (dbl (ltOf cf) s n dk = dbl (ltOf cf) 20 n d1))
      case atStart => exact ⟨20, d1, rfl, Nat.le_refl _, by omega, hsB, S3, rfl⟩
      case round =>
        clear S3
        obtain ⟨s, dk, rfl, hs20, hkx, hds, S1, HE⟩ := hrel
        by_cases hlt : s < n
        · have hltz : (s : Int) < (n : Int) := by omega
          have HD : Aside (dbl (ltOf cf) (s * 2) n (mergeB (ltOf cf) s n 0 dk) = dbl (ltOf cf) 20 n d1) := by
            have he := HE.out
            rw [dbl, dif_pos ⟨by omega, hlt⟩] at he
            exact he
          have hsM : (mergeB (ltOf cf) s n 0 dk).size = d.size := (size_mergeB s n _ 0 dk (Nat.lt_succ_self _)).trans hds
          clear HE
          go_wp2
          go_loopg [7, 8] n (fun kx s7 s8 wr2 => ∃ (A : Nat) (dj : Array α), s7 = .int .i64 A ∧ s8 = .int .i64 ((A : Int) + 2 * (s : Int)) ∧ A ≤ n ∧ n - A ≤ kx ∧ dj.size = d.size ∧ Aside (SWB enc k w0 blk off dj wr2) ∧ Hid (mergeB (ltOf cf) s n A dj = mergeB (ltOf cf) s n 0 dk))
          case atStart => exact ⟨0, dk, rfl, by congr 1; omega, Nat.zero_le _, by omega, hds, S1, rfl⟩
          case round =>
            clear S1
            obtain ⟨A, dj, rfl, rfl, hA2, hkx2, hdj, S1, HE⟩ := hrel
            by_cases hle2 : A + 2 * s ≤ n
            · have hlez2 : (A : Int) + 2 * (s : Int) ≤ (n : Int) := by omega
              have hc := symMerge L enc cf g cb blk off cap w0 eg HC.out R (2 * s + 1) A (A + s) (A + 2 * s) dj wr (by omega) S1.out (by omega) (by omega) (by omega) (by omega)
              rw [hdj, show ((A + s : Nat) : Int) = (A : Int) + (s : Int) by omega, show ((A + 2 * s : Nat) : Int) = (A : Int) + 2 * (s : Int) by omega] at hc
              clear S1
              go_wp2_with (go_at_fn 59; refine hc.mono ?_; rintro e w1 ⟨rfl, S2⟩)
              go_roundg (n - (A + 2 * s))
              case measure => omega
              case rel =>
                have he := HE.out
                rw [mergeB, dif_pos ⟨by omega, hle2⟩] at he
                exact ⟨A + 2 * s, _, by first | rfl | (congr 1; omega), by first | rfl | (congr 1; omega), by omega, by omega, (size_symM _ _ _ _ _).trans hdj, S2, he⟩
            · have hlez2 : ¬ (A : Int) + 2 * (s : Int) ≤ (n : Int) := by omega
              by_cases hmn : A + s < n
              · have hmnz : (A : Int) + (s : Int) < (n : Int) := by omega
                have hc := symMerge L enc cf g cb blk off cap w0 eg HC.out R (n - A + 1) A (A + s) n dj wr (by omega) S1.out (by omega) (by omega) (by omega) (by omega)
                rw [hdj, show ((A + s : Nat) : Int) = (A : Int) + (s : Int) by omega] at hc
                clear S1
                go_wp2_with (go_at_fn 59; refine hc.mono ?_; rintro e w1 ⟨rfl, S2⟩)
                go_roundg (n - s * 2)
                case measure => omega
                case rel =>
                  have he := HE.out
                  rw [mergeB, dif_neg (fun h => hle2 h.2), if_pos hmn] at he
                  exact ⟨s * 2, _, by first | rfl | (congr 1; omega), by omega, by omega, by rw [← he] at hsM; exact hsM, S2, by rw [he]; exact HD⟩
              · have hmnz : ¬ (A : Int) + (s : Int) < (n : Int) := by omega
                go_wp2_with fail
                go_roundg (n - s * 2)
                case measure => omega
                case rel =>
                  have he := HE.out
                  rw [mergeB, dif_neg (fun h => hle2 h.2), if_neg hmn] at he
                  exact ⟨s * 2, dj, by first | rfl | (congr 1; omega), by omega, by omega, hdj, S1, by rw [he]; exact HD⟩
        · have hltz : ¬ (s : Int) < (n : Int) := by omega
          go_wp2
          go_end0
          refine ⟨rfl, ?_⟩
          have he := HE.out
          rw [dbl, dif_neg (fun h => hlt h.2)] at he
          unfold stab
          rw [← HB.out, ← he]
          exact S1.out
set_option maxHeartbeats 8000000 in
set_option maxRecDepth 1000000 in
/-- slices.SortStableFunc -/
theorem sortStable (L : Lay P k) (enc : α → List Value) (cf : α → α → Int) (g : Nat) (cb : Array Value) (blk off cap : Nat) (d : Array α) (w0 w : World) (eg : ∀ args w, (callFunc g args).run P w = .ok (.enter g args) w) (hcmp : CmpB P g cb enc cf) (R : RowB enc k) (S : SWB enc k w0 blk off d w) (hO : SWO (ltOf cf)) (hsz : d.size < 1152921504606846976) :
    Calls P 31 #[.slice (some ⟨blk, off, none⟩) d.size cap, .func (.func g) #[] cb] w fun e w' => e = .returned (.tuple #[]) ∧ SWB enc k w0 blk off (stab (ltOf cf) d.size d) w' := by
  have mixed := L.mixed; have t0 := L.t0; have a0 := L.a0; have z0 := L.z0; have v0 := L.v0; have t3 := L.t3; have a3 := L.a3; have z3 := L.z3; have v3 := L.v3; have t4 := L.t4; have a4 := L.a4; have z4 := L.z4; have v4 := L.v4; have t74 := L.t74; have a74 := L.a74; have z74 := L.z74; have v74 := L.v74; have t22 := L.t22; have a22 := L.a22; have z22 := L.z22; have v22 := L.v22; have t52 := L.t52; have a52 := L.a52; have z52 := L.z52; have v52 := L.v52; have aE := L.aE; have zE := L.zE; have u0 := run_underlying L.t0; have u3 := run_underlying L.t3; have u4 := run_underlying L.t4; have u74 := run_underlying L.t74; have u22 := run_underlying L.t22; have u52 := run_underlying L.t52
  have hc := stable L enc cf g cb blk off cap d w0 w eg hcmp R S hO d.size rfl hsz
  clear hcmp S
  have enI : ∀ args w, (callFunc 51 args).run P w = .ok (.enter 51 args) w := enters_of L.f51 (by kernel_rfl) rfl
  go_enter L.f31, Try.ntmps31
  go_wp2_with (go_at_fn 51; refine hc.mono ?_; rintro e w1 ⟨rfl, S2⟩)
  go_end0
  exact ⟨rfl, S2⟩
theorem insSort_nil (L : Lay P k) (g : Nat) (cb : Array Value) (w : World) : Calls P 58 #[.slice none 0 0, .int .i64 0, .int .i64 0, .func (.func g) #[] cb] w fun e w' => e = .returned (.tuple #[]) ∧ w' = w := by
  have mixed := L.mixed; have t0 := L.t0; have a0 := L.a0; have z0 := L.z0; have v0 := L.v0; have t3 := L.t3; have a3 := L.a3; have z3 := L.z3; have v3 := L.v3; have t4 := L.t4; have a4 := L.a4; have z4 := L.z4; have v4 := L.v4; have t74 := L.t74; have a74 := L.a74; have z74 := L.z74; have v74 := L.v74; have t22 := L.t22; have a22 := L.a22; have z22 := L.z22; have v22 := L.v22; have t52 := L.t52; have a52 := L.a52; have z52 := L.z52; have v52 := L.v52; have aE := L.aE; have zE := L.zE; have u0 := run_underlying L.t0; have u3 := run_underlying L.t3; have u4 := run_underlying L.t4; have u74 := run_underlying L.t74; have u22 := run_underlying L.t22; have u52 := run_underlying L.t52
  go_enter L.f58, Try.ntmps58
  go_wp2
  refine wp_loop_rounds 1 ?_
  rw [rounds_succ]
  go_wp2
  go_end0
  exact ⟨rfl, rfl⟩
theorem stable_nil (L : Lay P k) (g : Nat) (cb : Array Value) (w : World) : Calls P 51 #[.slice none 0 0, .int .i64 0, .func (.func g) #[] cb] w fun e w' => e = .returned (.tuple #[]) ∧ w' = w := by
  have mixed := L.mixed; have t0 := L.t0; have a0 := L.a0; have z0 := L.z0; have v0 := L.v0; have t3 := L.t3; have a3 := L.a3; have z3 := L.z3; have v3 := L.v3; have t4 := L.t4; have a4 := L.a4; have z4 := L.z4; have v4 := L.v4; have t74 := L.t74; have a74 := L.a74; have z74 := L.z74; have v74 := L.v74; have t22 := L.t22; have a22 := L.a22; have z22 := L.z22; have v22 := L.v22; have t52 := L.t52; have a52 := L.a52; have z52 := L.z52; have v52 := L.v52; have aE := L.aE; have zE := L.zE; have u0 := run_underlying L.t0; have u3 := run_underlying L.t3; have u4 := run_underlying L.t4; have u74 := run_underlying L.t74; have u22 := run_underlying L.t22; have u52 := run_underlying L.t52
  have hc := fun w => insSort_nil L g cb w
  have enI : ∀ args w, (callFunc 58 args).run P w = .ok (.enter 58 args) w := enters_of L.f58 (by kernel_rfl) rfl
  go_enter L.f51, Try.ntmps51
  go_wp2
  refine wp_loop_rounds 1 ?_
  rw [rounds_succ]
  go_wp2_with (go_at_fn 58; refine (hc _).mono ?_; rintro e w1 ⟨rfl, rfl⟩)
  refine wp_loop_rounds 1 ?_
  rw [rounds_succ]
  go_wp2
  go_end0
  exact ⟨rfl, rfl⟩
theorem sortStable_nil (L : Lay P k) (g : Nat) (cb : Array Value) (w : World) : Calls P 31 #[.slice none 0 0, .func (.func g) #[] cb] w fun e w' => e = .returned (.tuple #[]) ∧ w' = w := by
  have mixed := L.mixed; have t0 := L.t0; have a0 := L.a0; have z0 := L.z0; have v0 := L.v0; have t3 := L.t3; have a3 := L.a3; have z3 := L.z3; have v3 := L.v3; have t4 := L.t4; have a4 := L.a4; have z4 := L.z4; have v4 := L.v4; have t74 := L.t74; have a74 := L.a74; have z74 := L.z74; have v74 := L.v74; have t22 := L.t22; have a22 := L.a22; have z22 := L.z22; have v22 := L.v22; have t52 := L.t52; have a52 := L.a52; have z52 := L.z52; have v52 := L.v52; have aE := L.aE; have zE := L.zE; have u0 := run_underlying L.t0; have u3 := run_underlying L.t3; have u4 := run_underlying L.t4; have u74 := run_underlying L.t74; have u22 := run_underlying L.t22; have u52 := run_underlying L.t52
  have hc := fun w => stable_nil L g cb w
  have enI : ∀ args w, (callFunc 51 args).run P w = .ok (.enter 51 args) w := enters_of L.f51 (by kernel_rfl) rfl
  go_enter L.f31, Try.ntmps31
  go_wp2_with (go_at_fn 51; refine (hc _).mono ?_; rintro e w1 ⟨rfl, rfl⟩)
  go_end0
  exact ⟨rfl, rfl⟩
end Go.Proofs.Ytcbgcmaioicdbaa.Stab
