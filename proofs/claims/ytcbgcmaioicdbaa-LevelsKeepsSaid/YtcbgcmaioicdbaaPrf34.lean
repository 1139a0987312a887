-- printed by xprint.py
import Derived.Test.YtcbgcmaioicdbaaPr0
namespace Go.Proofs.Ytcbgcmaioicdbaa.Pr
open Go.RowKit Go.Proofs.YtcbgcmaioicdbaaW PrintWords PrintLast PrintMore
set_option linter.unusedVariables false
set_option linter.unusedSimpArgs false

/-! ### concatP: function 34 -/
abbrev zeroP : Value := .agg #[(.int .i64 0), (.int .i64 0), (.bool false), (.int .i64 0), (.string ⟨#[]⟩), (.bool false), (.int .i64 0), (.string ⟨#[]⟩)]
set_option maxHeartbeats 4000000 in
set_option maxRecDepth 100000 in
theorem growP.calls (n : Nat) (w : World) (hn : n * 80 ≤ 140737488355328) :
  Calls Try.prog 55 #[.slice none 0 0, .int .i64 n] w fun e w' => ∃ v0_ : Value, e = .returned v0_ ∧ Kd.R k38 38 w' w.heap.size (fun _ => True) v0_ ([] : List S38) ∧ Below w.heap.size w w' := by
 have h0 : (0 : Int) ≤ (n : Int) := by omega
 by_cases hz : n = 0
 ·subst hz
  go_enter Try.func55, Try.ntmps55
  go_wp2
  go_ret
  exact ⟨_, rfl, Kd.R_nil _ _ _ _ _, Below.refl _ _⟩
 ·have hp : (0 : Int) < (n : Int) := by omega
  go_enter Try.func55, Try.ntmps55
  go_wp2_with ((with_reducible refine gate_builtin (b := .append) (xs := #[.tmp 20, .tmp 21]) rfl ?_); at_builtin; refine Kd.R_append_zeros k38 (w0 := w) w.heap.size rfl (.tmp 20) (.tmp 21) 22 3 38 zeroP 80 rfl Try.underlying22 Try.underlying3 info38 rfl (by decide) (by omega) (.slice none 0 0) ([] : List S38) z38 (n : Int) (fun _ => True) rfl rfl ?hzero (fun _ _ => trivial) (Kd.R_nil _ _ _ _ _) h0 (Below.refl _ _) (Nat.le_refl _) ?hl ?_; (case hzero => exact k38_mkM _ _ _ z38); (case hl => simp only [List.length_nil, Nat.zero_add, Int.toNat_natCast]; exact hn); intro v1 w1 ho hb hg hat; obtain ⟨A1, c1, rfl⟩ := Kd.R_slice ho)
  go_ret
  exact ⟨_, rfl, by have := Kd.R_take ho (m := 0) (Nat.zero_le _); simpa using this, hb⟩
def concatP.f (l : List (List S38)) : Option (List S38) := if l.flatten.length ≤ 1759218604441 then some l.flatten else none
theorem flat_stepP {α : Type} (l : List (List α)) (n : Nat) (h : n < l.length) : (l.take (n + 1)).flatten = (l.take n).flatten ++ l[n] := by
 rw [List.take_succ_eq_append_getElem h, List.flatten_append]; simp
theorem flat_leP {α : Type} (l : List (List α)) (n : Nat) : (l.take n).flatten.length ≤ l.flatten.length := by
 conv => rhs; rw [← List.take_append_drop n l, List.flatten_append, List.length_append]
 omega
set_option maxHeartbeats 4000000 in
set_option maxRecDepth 100000 in
theorem concatP.calls (A0 : Option Addr) (c0 : Nat) (l0 : List (List S38)) (r : List S38) (w : World) (hr0 : Kd.C (Kd.slice 38 k38) w A0 l0.length l0) (hc0 : l0.length ≤ c0) (h : concatP.f l0 = some r) :
  Calls Try.prog 34 #[.slice A0 l0.length c0] w fun e w' => ∃ v0_ : Value, e = .returned v0_ ∧ Kd.R k38 38 w' w.heap.size (fun _ => True) v0_ r ∧ Below w.heap.size w w' := by
 unfold concatP.f at h
 split at h
 ·rename_i g0
  obtain rfl := Option.some.inj h
  clear h
  have HR0 := Aside0.mk hr0
  have hl0 : l0.length ≤ 9223372036854775807 := hr0.2.1
  have GB := Aside0.mk g0
  clear hr0 g0
  obtain ⟨sz, hsz⟩ : ∃ sz : Nat → Nat, ∀ n, sz n = (l0.take n).flatten.length := ⟨_, fun _ => rfl⟩
  have SZ0 : Aside0 (sz 0 = 0) := ⟨by rw [hsz]; simp⟩
  have SZS : Aside0 (∀ n (h : n < l0.length), sz (n + 1) = sz n + l0[n].length) := ⟨fun n h => by rw [hsz, hsz, flat_stepP l0 n h, List.length_append]⟩
  have SZB : Aside0 (∀ n, sz n ≤ 1759218604441) := ⟨fun n => by rw [hsz]; exact Nat.le_trans (flat_leP l0 n) GB.out⟩
  have SZ := Aside0.mk hsz
  clear hsz
  have HG : Aside0 (∀ n : Nat, n ≤ 1759218604441 → ∀ w : World, Calls Try.prog 55 #[.slice none 0 0, .int .i64 n] w fun e w' => ∃ v0_ : Value, e = .returned v0_ ∧ Kd.R k38 38 w' w.heap.size (fun _ => True) v0_ ([] : List S38) ∧ Below w.heap.size w w') := ⟨fun n hn w => growP.calls n w (by omega)⟩
  have hrow : Aside0 (∀ n (hn : n < l0.length), ∃ ad A2 c2, A0 = some ad ∧ w.cell? (ad.add n) = some (.slice A2 l0[n].length c2) ∧ l0[n].length ≤ c2 ∧ Kd.C k38 w A2 l0[n].length l0[n]) := ⟨fun n hn => by
   obtain ⟨ad, c, e0, hc1, ⟨A2, c2, rfl, hl2, hC⟩, hcell⟩ := HR0.out.get_ ([] : List S38) (n : Int) (by omega) (by omega)
   have hg : l0.getD ((n : Int)).toNat [] = l0[n] := by simp [List.getD_eq_getElem?_getD, List.getElem?_eq_getElem hn]
   rw [hg] at hl2 hC
   refine ⟨ad, A2, c2, e0, ?_, hl2, hC⟩
   have := hcell 0 _ rfl
   rw [hg, show (Kd.slice 38 k38).sz = 1 from rfl, Nat.mul_one, Nat.add_zero, Int.toNat_natCast] at this
   exact this⟩
  go_enter Try.func34, Try.ntmps34
  go_wp2
  go_loopg [3, 5, 11] l0.length (fun kx s3 s5 s11 wr => ∃ n : Nat, s11 = .int .i64 n ∧ n ≤ l0.length ∧ l0.length - n ≤ kx ∧ s3 = .int .i64 (sz n : Nat) ∧ wr = w)
  case atStart => exact ⟨0, rfl, Nat.zero_le _, by omega, by rw [SZ0.out]; rfl, rfl⟩
  case round =>
   obtain ⟨n, rfl, hn, hkx, rfl, hwr⟩ := hrel
   obtain rfl : w = wr := hwr.symm
   by_cases hlt : n < l0.length
   ·have hltz : (n : Int) < (l0.length : Int) := by omega
    have hnz : (0 : Int) ≤ (n : Int) := by omega
    obtain ⟨ad, A2, c2, rfl, hcell, hc2, hC2⟩ := hrow.out n hlt
    have HLEN := Aside0.mk (SZS.out n hlt)
    have hb2 : sz n + l0[n].length ≤ 1759218604441 := by rw [← SZS.out n hlt]; exact SZB.out _
    clear hC2 hc2
    have hnn : ¬ ((sz n : Int) + (l0[n].length : Int) < 0) := by omega
    generalize hL2 : l0[n].length = M2 at HLEN hb2 hnn hcell ⊢
    clear hL2
    go_wp2
    go_roundg (l0.length - (n + 1))
    case measure => omega
    case rel => exact ⟨n + 1, by go_num, by omega, by omega, by rw [HLEN.out]; rfl, rfl⟩
   ·have hltz : ¬ (n : Int) < (l0.length : Int) := by omega
    obtain rfl : n = l0.length := by omega
    have hg := HG.out (sz l0.length) (SZB.out _)
    go_wp2_with fail
    refine (hg _).mono ?_
    rintro e w1 ⟨v1, rfl, hR1, hB1⟩
    have HR1 := Aside0.mk hR1
    have HB1 := Aside0.mk hB1
    clear hR1 hB1 hg HG hn hkx hlt
    go_wp2
    go_loopg [6, 8, 27] l0.length (fun kx s6 s8 s27 wr => ∃ n : Nat, s27 = .int .i64 n ∧ n ≤ l0.length ∧ l0.length - n ≤ kx ∧ Aside0 (Kd.R k38 38 wr w.heap.size (fun _ => True) s6 (l0.take n).flatten) ∧ Aside0 (Below w.heap.size w wr))
    case atStart => exact ⟨0, rfl, Nat.zero_le _, by omega, ⟨by rw [List.take_zero]; exact HR1.out⟩, HB1⟩
    case round =>
     clear HR1 HB1
     obtain ⟨n, rfl, hn, hkx, HR, HB⟩ := hrel
     by_cases hlt : n < l0.length
     ·have hltz : (n : Int) < (l0.length : Int) := by omega
      have hnz : (0 : Int) ≤ (n : Int) := by omega
      obtain ⟨ad, A2, c2, rfl, hcell, hc2, hC2⟩ := hrow.out n hlt
      have hcell' := pw_cell_below HB.out hcell
      have HC2 := Aside0.mk (Kd.C_below hC2 HB.out)
      have HLEN := Aside0.mk (SZS.out n hlt)
      have hb2 := Aside0.mk (SZB.out (n + 1))
      have hst := Aside0.mk (flat_stepP l0 n hlt)
      have hSn := Aside0.mk (SZ.out n)
      clear hcell hC2 hc2
      generalize hX : l0[n] = X at HLEN hcell' HC2 hst
      generalize hF : (l0.take n).flatten = F at HR hst hSn
      clear hX hF
      go_wp2_with ((with_reducible refine gate_builtin (b := .append) (xs := #[.tmp 31, .tmp 32]) rfl ?_); at_builtin; refine Kd.R_append_rows k38 (w0 := w) w.heap.size rfl (.tmp 31) (.tmp 32) 22 38 zeroP 80 rfl Try.underlying22 info38 rfl (by decide) (by omega) _ F X _ _ _ (fun _ => True) (fun _ => False) rfl rfl ?aO ?aR (fun _ _ h => h) (fun _ h => h.elim) ?aF ?aB ?aS ?aL ?_; (case aR => exact HC2.out); (case aB => exact HB.out); (case aF => exact (fun _ _ => trivial)); (case aO => exact HR.out); (case aS => exact HB.out.size); (case aL => have e1 := HLEN.out; have e2 := hb2.out; have e3 := hSn.out; omega); intro v2 w2 ho hb hg2 hat; have HO2 := Aside0.mk ho; have HB2 := Aside0.mk hb; clear ho hb hg2 hat)
      go_roundg (l0.length - (n + 1))
      case measure => omega
      case rel => exact ⟨n + 1, by go_num, by omega, by omega, ⟨by rw [hst.out]; exact HO2.out⟩, HB2⟩
     ·have hltz : ¬ (n : Int) < (l0.length : Int) := by omega
      obtain rfl : n = l0.length := by omega
      go_wp2
      go_ret
      exact ⟨_, rfl, by have := HR.out; rwa [List.take_length] at this, HB.out⟩
 ·cases h


end Go.Proofs.Ytcbgcmaioicdbaa.Pr
