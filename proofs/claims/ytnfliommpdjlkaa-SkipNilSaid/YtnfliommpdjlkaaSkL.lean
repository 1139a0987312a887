/- skip: lives (numbers of seat b) -/
import Derived.Test.YtnfliommpdjlkaaSkG
namespace Go.Proofs.Ytnfliommpdjlkaa.Pr
open Go.RowKit Go.Proofs.Ytnfliommpdjlkaa.Brid Go.Proofs.YtnfliommpdjlkaaW.PrintWords Go.Proofs.YtnfliommpdjlkaaW.PrintLast Go.Proofs.YtnfliommpdjlkaaW.PrintMore
set_option linter.unusedVariables false
set_option linter.unusedSimpArgs false
set_option maxHeartbeats 4000000
set_option maxRecDepth 100000
theorem C_one {w : World} {b e : Nat} {x : S27} (h : w.heap[b]? = some (.cells (cellsT x) e (0, 0))) : Kd.C k27 w (some ⟨b, 0, none⟩) 1 [x] := by
  refine ⟨rfl, by simp, fun _ => ⟨_, rfl, fun j p hj => ?_⟩⟩
  have hj0 : j = 0 := by have := (List.getElem?_eq_some_iff.1 hj).1; simp at this; omega
  subst hj0
  simp at hj
  subst hj
  refine ⟨_, rfl, k27_mk w x, fun i u hi => ?_⟩
  rw [show 0 * k27.sz + i = i by omega, add_plain, blk_cell h]
  simpa using hi
theorem below_fr {w0 w w' : World} {O : Nat → Prop} (h : Below w0.heap.size w0 w) (f : Fr O w w') (hO : ∀ k, O k → w0.heap.size ≤ k) : Below w0.heap.size w0 w' :=
  ⟨f.os.trans h.os, f.tape.trans h.tape, f.output.trans h.output, Nat.le_trans h.size f.size, fun k hk => (f.block k (Nat.lt_of_lt_of_le hk h.size) (fun hh => by have := hO k hh; omega)).trans (h.block k hk)⟩
def numD (g : Bool) (n : Int) : S25 := ⟨g, [⟨false, n, ⟨#[]⟩⟩]⟩
theorem less_num (a b : Int) : lessT ⟨false, a, ⟨#[]⟩⟩ ⟨false, b, ⟨#[]⟩⟩ = decide (a < b) := by
  unfold lessT Thy.less
  by_cases h : a = b
  · subst h; simp [Thy.bl_irrefl]
  · simp [h]
theorem key_num (g : Bool) (n : Int) : keyT (numD g n) = ⟨false, n, ⟨#[]⟩⟩ := rfl
theorem lives_ds : putV (putV (putV (putV [] (numD false 3)) (numD false 1)) (numD false 2)) (numD true 1) = [numD true 1, numD false 2, numD false 3] := by
  simp [putV, preOf, postOf, key_num, less_num]
theorem lives_get : getV [numD true 1, numD false 2, numD false 3] ⟨false, 1, ⟨#[]⟩⟩ = some (numD true 1) := by
  simp [getV, postOf, key_num, less_num]
theorem lives_bytes : wrap64 (bytesI [numD true 1, numD false 2, numD false 3]) = 48 := by
  have : (⟨#[]⟩ : ByteArray).size = 0 := rfl
  simp [bytesI, sizeI, numD, this, wrap64]
theorem numPut (g : Bool) (n : Int) (w0 w1 : World) (p : Nat) (ns : List (Sk.Nd S25)) (ds : List S25) (HB : Below w0.heap.size w0 w1) (H : SkL w1 (fun k => w0.heap.size ≤ k) p ns) (hds : ns.map (·.d) = ds) (hl : ds.length ≤ 1000) :
    Calls Try.prog 16 #[.pointer (some ⟨p, 0, none⟩), .agg #[.bool g, .slice (some ⟨w1.heap.size, 0, none⟩) 1 1]] (w1.alloc (.cells #[.bool false, .int .i64 n, .string ⟨#[]⟩] 27)) fun e w' =>
      e = .returned (.bool true) ∧ Below w0.heap.size w0 w' ∧ ∃ ns', SkL w' (fun k => w0.heap.size ≤ k) p ns' ∧ ns'.map (·.d) = putV ds (numD g n) := by
  have hb := below_alloc (Below.refl w1.heap.size w1) (.cells #[.bool false, .int .i64 n, .string ⟨#[]⟩] 27)
  have hb0 := below_alloc HB (.cells #[.bool false, .int .i64 n, .string ⟨#[]⟩] 27)
  have hc := C_one (x := ⟨false, n, ⟨#[]⟩⟩) (heap_alloc_new w1 (.cells #[.bool false, .int .i64 n, .string ⟨#[]⟩] 27))
  have hlen : ns.length ≤ 1000 := by rw [← hds] at hl; simpa using hl
  refine (Put_T p (numD g n) (some ⟨w1.heap.size, 0, none⟩) 1 ns _ _ (H.below hb) hc (Nat.le_refl _) (by show 0 < 1; omega) (by show 1 ≤ _; omega) (by omega)).mono ?_
  rintro e w' ⟨he, hF, ns', H', hd⟩
  refine ⟨he, below_fr hb0 hF (fun k hk => hk), ns', H'.mono (fun k hk => ?_), by rw [hd, hds]⟩
  rcases hk with hk | hk
  · exact hk
  · exact Nat.le_trans hb0.size hk
theorem lives_T (w : World) : Calls Try.prog 14 #[] w fun e w' => e = .returned (.bool true) ∧ Below w.heap.size w w' := by
  go_enter Try.func14, Try.ntmps14
  go_wp2_with fail
  refine (New_T 1 w).mono ?_
  rintro e w1 ⟨rfl, hb1, H1⟩
  have HB1 := Aside0.mk hb1
  have HH1 := Aside0.mk H1
  clear hb1 H1
  go_wp2_with fail
  refine (numPut false 3 w w1 _ [] [] HB1.out HH1.out rfl (by simp)).mono ?_
  rintro e w2 ⟨rfl, hb2, n2, H2, hd2⟩
  have HB2 := Aside0.mk hb2
  have HH2 := Aside0.mk H2
  have HD2 := Aside0.mk hd2
  clear hb2 H2 hd2 HB1 HH1
  go_wp2_with fail
  refine (numPut false 1 w w2 _ n2 _ HB2.out HH2.out HD2.out (by simp [putV, preOf, postOf])).mono ?_
  rintro e w3 ⟨rfl, hb3, n3, H3, hd3⟩
  have HB3 := Aside0.mk hb3
  have HH3 := Aside0.mk H3
  have HD3 := Aside0.mk hd3
  clear hb3 H3 hd3 HB2 HH2 HD2
  go_wp2_with fail
  refine (numPut false 2 w w3 _ n3 _ HB3.out HH3.out HD3.out (by simp [putV, preOf, postOf, key_num, less_num])).mono ?_
  rintro e w4 ⟨rfl, hb4, n4, H4, hd4⟩
  have HB4 := Aside0.mk hb4
  have HH4 := Aside0.mk H4
  have HD4 := Aside0.mk hd4
  clear hb4 H4 hd4 HB3 HH3 HD3
  go_wp2_with fail
  refine (numPut true 1 w w4 _ n4 _ HB4.out HH4.out HD4.out (by simp [putV, preOf, postOf, key_num, less_num])).mono ?_
  rintro e w5 ⟨rfl, hb5, n5, H5, hd5⟩
  rw [lives_ds] at hd5
  have HB5 := Aside0.mk hb5
  have HH5 := Aside0.mk H5
  have HD5 := Aside0.mk hd5
  clear hb5 H5 hd5 HB4 HH4 HD4
  go_wp2_with fail
  refine (Get_T _ ⟨false, 1, ⟨#[]⟩⟩ n5 _ w5 HH5.out (fun n hn => ?_)).mono ?_
  · have : n.d ∈ n5.map (·.d) := List.mem_map_of_mem hn
    rw [HD5.out] at this
    simp only [List.mem_cons, List.not_mem_nil, or_false] at this
    rcases this with h | h | h <;> (rw [h]; show 1 ≤ _; omega)
  rintro e w6 ⟨hb6, hG⟩
  rw [HD5.out, lives_get] at hG
  obtain ⟨v, rfl, hR⟩ := hG
  obtain ⟨Av, cv, rfl⟩ := Kd.R_slice hR
  have hb7 := below_alloc hb6 (.cells #[.bool true, .slice Av (numD true 1).f1.length cv] 25)
  have HB7 := Aside0.mk (below_then HB5.out HB5.out.size hb7)
  have HH7 := Aside0.mk (HH5.out.below hb7)
  have hlen := Len_T _ _ _ _ HH7.out
  have hbyt := Bytes_T _ _ _ _ HH7.out
  have hn5 : n5.length = 3 := by have := congrArg List.length HD5.out; simpa using this
  rw [hn5] at hlen
  rw [HD5.out, lives_bytes] at hbyt
  clear hb6 hR hn5 hb7
  go_wp2_with (first | (go_at_call 29; refine hlen.mono ?_; rintro e w8 ⟨rfl, rfl⟩) | (go_at_call 30; refine hbyt.mono ?_; rintro e w8 ⟨rfl, rfl⟩))
  go_ret
  exact ⟨rfl, HB7.out⟩
end Go.Proofs.Ytnfliommpdjlkaa.Pr
