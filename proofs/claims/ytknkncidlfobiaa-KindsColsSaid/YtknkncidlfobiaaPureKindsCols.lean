/- The law KindsCols: its walk, out of the contracts of what it calls. -/
import Derived.Test.YtknkncidlfobiaaRdk
import Derived.Test.YtknkncidlfobiaaPr0
import Derived.Test.YtknkncidlfobiaaPrf15
import Derived.Test.YtknkncidlfobiaaPrf20
import Derived.Test.YtknkncidlfobiaaPrf21
import Derived.Test.YtknkncidlfobiaaPrf22
import Derived.Test.YtknkncidlfobiaaPrf23
import Derived.Test.YtknkncidlfobiaaPrf24
import Derived.Test.YtknkncidlfobiaaPrf39xc
import Derived.Test.YtknkncidlfobiaaPrf8
namespace Go.Proofs.Ytknkncidlfobiaa.Pr
open Go.RowKit Go.Proofs.Ytknkncidlfobiaa.Brid Go.Proofs.YtknkncidlfobiaaW.PrintWords Go.Proofs.YtknkncidlfobiaaW.PrintLast Go.Proofs.YtknkncidlfobiaaW.PrintMore
set_option linter.unusedVariables false
set_option linter.unusedSimpArgs false

theorem rightB_pair (x : S42) (hk : x.f0 = 1 ∨ x.f0 = 2) : rightB [(⟨1, false⟩ : S42), x] = true := by
  simp only [rightB, List.length_cons, List.length_nil, List.any_cons, List.any_nil, odd]
  have : (rd_T42 [(⟨1, false⟩ : S42), x] 0).f1 = false := rfl
  rw [this]
  rcases hk with h | h <;> simp [h]
theorem fits_pair (x : S42) (v : S23) (hk : x.f0 = 1 ∨ x.f0 = 2) :
    fitsV [(⟨1, false⟩ : S42), x] [(⟨false, 1, (⟨#[]⟩ : ByteArray)⟩ : S23), v] = if isB x v then 0 else 6 := by
  unfold fitsV
  rw [if_pos (rightB_pair x hk), if_pos (show [(⟨1, false⟩ : S42), x].length = [(⟨false, 1, (⟨#[]⟩ : ByteArray)⟩ : S23), v].length from rfl)]
  have : isB (⟨1, false⟩ : S42) (⟨false, 1, (⟨#[]⟩ : ByteArray)⟩ : S23) = true := by simp [isB, toList_none]
  simp only [List.zip_cons_cons, List.zip_nil_right, List.all_cons, List.all_nil, this, Bool.true_and, Bool.and_true]
theorem cols_tells (s : List S42) (r : List S23) (hl : s.length ≤ 9223372036854775807) (he : s.length = r.length) (hr : rightB s = true) : ∀ (d k n : Nat) (a : Int), n + d = s.length → d < k →
    (a = if ((s.take n).zip (r.take n)).all (fun p => isB p.1 p.2) then 0 else 6) → tithebarnlaw02_KindsCols.l0 k s r a (n : Int) = some true := by
  intro d
  induction d with
  | zero =>
    intro k n a hn hk ha
    obtain ⟨k, rfl⟩ : ∃ m, k = m + 1 := ⟨k - 1, by omega⟩
    simp only [tithebarnlaw02_KindsCols.l0]
    rw [if_neg (by omega)]
    rw [List.take_of_length_le (by omega), List.take_of_length_le (by omega)] at ha
    have hf : fitsV s r = a := by rw [ha]; unfold fitsV; rw [if_pos hr, if_pos he]
    obtain ⟨_, h0, _⟩ := right_first hr
    simp only [kinds_Fits_c.f, Option.bind_some, hf, if_true]
    rw [if_pos (by omega : (0 : Int) < (r.length : Int))]
    simp only [kinds_Key_c.f, Option.bind_some]
    by_cases ha0 : ((s.zip r).all (fun p => isB p.1 p.2)) = true
    · have : keyV s ⟨(rd_T23 r 0).f0, (rd_T23 r 0).f1, (rd_T23 r 0).f2⟩ = 0 := by
        unfold keyV
        rw [if_pos hr]
        have hm : isB (rd_T42 s 0) (rd_T23 r 0) = true := by
          match s, r, h0, he with
          | c :: s, v :: r, _, _ =>
            rw [List.zip_cons_cons, List.all_cons, Bool.and_eq_true] at ha0
            exact ha0.1
        rw [show (⟨(rd_T23 r 0).f0, (rd_T23 r 0).f1, (rd_T23 r 0).f2⟩ : S23) = rd_T23 r 0 from rfl, hm]
        rfl
      rw [this]; rfl
    · rw [if_neg ha0] at ha
      subst ha
      split <;> rfl
  | succ d ih =>
    intro k n a hn hk ha
    obtain ⟨k, rfl⟩ : ∃ m, k = m + 1 := ⟨k - 1, by omega⟩
    have hlt : n < s.length := by omega
    have hlr : n < r.length := by omega
    simp only [tithebarnlaw02_KindsCols.l0]
    have hw : wrap64 ((n : Int) + 1) = ((n + 1 : Nat) : Int) := by unfold wrap64; omega
    rw [if_pos (by omega), if_pos (by omega), if_pos (by omega), hw, rdC_at s n hlt, rdV_at r n hlr]
    have hk2 := right_kinds hr s[n] (List.getElem_mem hlt)
    have hfp := fits_pair s[n] r[n] hk2
    simp only [kinds_Fits_c.f, Option.bind_some]
    rw [show (⟨s[n].f0, s[n].f1⟩ : S42) = s[n] from rfl, show (⟨r[n].f0, r[n].f1, r[n].f2⟩ : S23) = r[n] from rfl, hfp]
    have hz : (s.take (n + 1)).zip (r.take (n + 1)) = (s.take n).zip (r.take n) ++ [(s[n], r[n])] := by
      rw [List.take_succ_eq_append_getElem hlt, List.take_succ_eq_append_getElem hlr, List.zip_append (by simp; omega)]; rfl
    have hall : ((s.take (n + 1)).zip (r.take (n + 1))).all (fun p => isB p.1 p.2) = (((s.take n).zip (r.take n)).all (fun p => isB p.1 p.2) && isB s[n] r[n]) := by
      rw [hz, List.all_append]; simp
    cases hb : isB s[n] r[n] with
    | true =>
      rw [if_pos rfl, if_pos rfl]
      refine ih k (n + 1) a (by omega) (by omega) ?_
      rw [hall, hb, Bool.and_true]; exact ha
    | false =>
      rw [if_neg (by decide), if_neg (by decide)]
      refine ih k (n + 1) 6 (by omega) (by omega) ?_
      rw [hall, hb, Bool.and_false, if_neg (by decide)]
theorem KindsCols_walk (W : World) (A0 : Option Addr) (c0 : Nat) (l0 : List (S42)) (hc0 : l0.length ≤ c0) (hr0 : Kd.C k42 W A0 l0.length l0) (b0 : BL B42 l0 maxLen) (A1 : Option Addr) (c1 : Nat) (l1 : List (S23)) (hc1 : l1.length ≤ c1) (hr1 : Kd.C k23 W A1 l1.length l1) (b1 : BL B23 l1 maxLen) :
    Calls Try.prog 8 #[.slice A0 l0.length c0, .slice A1 l1.length c1] W fun e W' => e = .returned (.bool true) ∧ Below W.heap.size W W' := by
  refine tithebarnlaw02_KindsCols.calls (l0.length + 3) A0 c0 l0 A1 c1 l1 true W hr0 hc0 hr1 hc1 ?_
  have hl := hr0.2.1
  simp only [tithebarnlaw02_KindsCols.f, tithebarnlaw02_lives_c.f, kinds_Right.f, Option.bind_some, if_true]
  cases hr : rightB l0 with
  | false => simp [tithebarnlaw02_KindsCols.j0, tithebarnlaw02_lives_c.f]
  | true =>
    simp only [if_true]
    by_cases he : l0.length = l1.length
    · have hb : ((l0.length : Int) != (l1.length : Int)) = false := by rw [he]; simp
      rw [hb]
      simp only [tithebarnlaw02_KindsCols.j0]
      rw [if_neg (by decide)]
      exact cols_tells l0 l1 hl he hr l0.length _ 0 0 (by omega) (by omega) (by simp)
    · have hb : ((l0.length : Int) != (l1.length : Int)) = true := by rw [bne_iff_ne]; omega
      rw [hb]
      simp [tithebarnlaw02_KindsCols.j0, tithebarnlaw02_lives_c.f]

end Go.Proofs.Ytknkncidlfobiaa.Pr
