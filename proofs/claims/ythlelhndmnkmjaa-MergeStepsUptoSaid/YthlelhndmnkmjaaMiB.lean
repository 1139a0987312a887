/- Merge: Live's own list, lists with one more -/
import Derived.Test.YthlelhndmnkmjaaMiA
namespace Go.Proofs.Ythlelhndmnkmjaa.Pr
open Go.RowKit Go.Proofs.Ythlelhndmnkmjaa.Brid Go.Proofs.YthlelhndmnkmjaaW.PrintWords Go.Proofs.YthlelhndmnkmjaaW.PrintLast Go.Proofs.YthlelhndmnkmjaaW.PrintMore
set_option linter.unusedVariables false
set_option linter.unusedSimpArgs false
set_option maxHeartbeats 4000000
set_option maxRecDepth 100000
theorem C_old {α : Type} {d : Kd α} {we w : World} {A : Option Addr} {n : Nat} {xs : List α} (h : Kd.C d we A n xs) (hb : Below we.heap.size we w) : Kd.C (oldK d we) w A n xs := ReadsRow.imp_ h hb (fun _ _ h => h)
theorem Clone_G (we : World) (A : Option Addr) (c : Nat) (l : List S41) (w : World) (hC : Kd.C (oldK k41 we) w A l.length l) (hc : l.length ≤ c) (hn : l.length ≤ 1099511627776) :
    Calls Try.prog 47 #[.slice A l.length c] w fun e w' => ∃ v, e = .returned v ∧ Kd.R (oldK k41 we) 41 w' w.heap.size (fun _ => True) v l ∧ Below w.heap.size w w' := by
  cases A with
  | none =>
    have hl : l = [] := by
      rcases Nat.eq_zero_or_pos l.length with h | h
      · exact List.length_eq_zero_iff.1 h
      · obtain ⟨_, h1, _⟩ := hC.2.2 h; cases h1
    subst hl
    clear hC
    have q25 := q25
    go_enter Try.func47, Try.ntmps47
    go_wp2
    go_ret
    exact ⟨_, rfl, Kd.R_nil _ _ _ _ _, Below.refl _ _⟩
  | some ad =>
    have HC := Aside0.mk hC
    clear hC
    have q25 := q25
    go_enter Try.func47, Try.ntmps47
    have hz := heap_alloc_new w (.cells #[] 41)
    have HR0 : Aside0 (Kd.R (oldK k41 we) 41 (w.alloc (.cells #[] 41)) w.heap.size (fun _ => True) (.slice (some ⟨w.heap.size, 0, none⟩) 0 0) []) := ⟨⟨fun _ _ => trivial, [], ⟨rfl, .inr ⟨w.heap.size, 0, #[], rfl, Nat.le_refl _, hz, Nat.le_refl _, Nat.zero_le _, rfl, rfl⟩⟩, Reps.none _ _⟩⟩
    have HB0 := Aside0.mk (below_alloc (Below.refl w.heap.size w) (.cells #[] 41))
    clear hz
    go_wp2_with ((with_reducible refine gate_builtin (b := .append) (xs := #[.tmp 5, .tmp 6]) rfl ?_); at_builtin; refine show_goal ?_)
    refine Aside0.mk ?_
    refine Kd.R_append_rows (oldK k41 we) (w0 := w) (Rr := (oldK k41 we).K w) w.heap.size ?_ (.tmp 5) (.tmp 6) 25 41 (.agg #[(.bool false), (.slice none 0 0)]) 32 ?_ ?_ ?_ ?_ ?_ ?_ (.slice (some ⟨w.heap.size, 0, none⟩) 0 0) ([] : List S41) l (some ad) l.length c (fun _ => True) (fun _ => False) ?_ ?_ ?_ ?_ ?_ ?_ ?_ ?_ ?_ ?_ ?_
    · rfl
    · rfl
    · exact Try.underlying25
    · exact info41
    · rfl
    · exact Nat.zero_lt_succ 1
    · exact Nat.zero_lt_succ 31
    · rfl
    · rfl
    · exact HR0.out
    · exact ReadsRow.imp_ HC.out HB0.out (fun _ _ h => h)
    · exact fun _ _ h => h
    · exact fun _ h => h.elim
    · exact fun _ _ => trivial
    · exact HB0.out
    · exact HB0.out.size
    · simp; omega
    intro v1 w1 hR1 hb1 hg1 hat1
    have HR1 := Aside0.mk hR1
    have HB1 := Aside0.mk hb1
    clear hR1 hb1 hg1 hat1
    go_wp2
    go_ret
    exact ⟨_, rfl, by simpa using HR1.out, HB1.out⟩
/-- merge.Live of a list that stood at we: its list is the call's own -/
theorem Live_G (we : World) (A : Option Addr) (c : Nat) (l : List S41) (w : World) (hbe : Below we.heap.size we w) (hC : Kd.C (oldK k41 we) w A l.length l) (hc : l.length ≤ c) (hn : l.length ≤ 1099511627776) :
    Calls Try.prog 20 #[.slice A l.length c] w fun e w' => Below w.heap.size w w' ∧ ∃ A' c', e = .returned (.slice A' (liveV l).length c') ∧ Kd.R (oldK k41 we) 41 w' we.heap.size (fun k => w.heap.size ≤ k) (.slice A' (liveV l).length c') (liveV l) := by
  have hcl := Clone_G we A c l w hC hc hn
  have HBE := Aside0.mk hbe
  clear hC hbe
  go_enter Try.func20, Try.ntmps20
  go_wp2_with fail
  refine hcl.mono ?_
  rintro e w1 ⟨v1, rfl, hR1, hb1⟩
  have hR1' := Kd.R_lower (Kd.R_mono (ok' := fun k => w.heap.size ≤ k) (Kd.R_bound hR1) (fun k hk => hk.2.1)) HBE.out.size
  have hdf := DeleteFunc_T we w1 _ v1 l hR1' (below_then HBE.out HBE.out.size hb1) hn
  have HR1 := Aside0.mk hR1
  have HB1 := Aside0.mk hb1
  clear hcl hR1 hb1 hR1'
  go_wp2_with fail
  refine hdf.mono ?_
  rintro e w2 ⟨v2, rfl, hR2, hg2⟩
  have HFIN : Aside0 (Below w.heap.size w w2) := ⟨⟨hg2.os.trans HB1.out.os, hg2.tape.trans HB1.out.tape, hg2.output.trans HB1.out.output, Nat.le_trans HB1.out.size hg2.size, fun k hk => (hg2.block k (Nat.lt_of_lt_of_le hk HB1.out.size) (fun e => by
      obtain ⟨_, inner, ho, _⟩ := HR1.out
      have := own_base ho k e.symm
      omega)).trans (HB1.out.block k hk)⟩⟩
  obtain ⟨A', c', e⟩ := Kd.R_slice hR2
  subst e
  have HR2 := Aside0.mk hR2
  clear hdf hR2 hg2
  go_wp2
  go_ret
  exact ⟨HFIN.out, A', c', rfl, HR2.out⟩
/-- Newest of lists that stand in order -/
def NewGood (xss : List (List S41)) (w : World) (e : Ending) (w' : World) : Prop := Below w.heap.size w w' ∧ ∃ A c, e = .returned (.tuple #[.slice A (nwV xss).length c, .int .i64 0]) ∧ (nwV xss).length ≤ c ∧ Kd.C k41 w' A (nwV xss).length (nwV xss)
theorem NewPost.to_good {xss : List (List S41)} {w : World} {e : Ending} {w' : World} (h : NewPost xss w e w') (hok : ∀ x ∈ xss, OkL x) : NewGood xss w e w' := ⟨h.below, h.good hok⟩
theorem gone_fin {wS w4 w5 w7 : World} {o : Obj} {xs : List (List S41)} {l : List S41} {vs : List Value} {A4 : Option Addr} {c4 : Nat} {v1 v7 : Value} {ok : Nat → Prop} (hV : ValsOf wS xs vs) (hR5 : Kd.R (oldK k41 wS) 41 w5 wS.heap.size (fun k => w4.heap.size ≤ k) (.slice A4 (liveV l).length c4) (liveV l))
    (hown : ∀ k, some k = v1.ownBlock → k < w4.heap.size) (hg : (w5.alloc o).grownBy w7 v1.ownBlock) (hb : Below wS.heap.size wS w7) (ho : Kd.R valK 25 w7 wS.heap.size ok v7 (vs ++ [.slice A4 (liveV l).length c4])) (hlen : xs.length + 1 ≤ 1024) (hsum : sumLen (xs ++ [liveV l]) ≤ 1099511627776) (hok : ∀ x ∈ xs ++ [liveV l], OkL x) :
    ∃ A7 n7 c7, v7 = .slice A7 n7 c7 ∧ Calls Try.prog 15 #[.slice A7 n7 c7] w7 fun e w' => NewGood (xs ++ [liveV l]) w7 e w' := by
  obtain ⟨A7, c7, hv, hc, hC⟩ := Kd.R_reads ho
  have e1 : (vs ++ [Value.slice A4 (liveV l).length c4]).length = (xs ++ [liveV l]).length := by rw [List.length_append, List.length_append, hV.1]; rfl
  rw [e1] at hv hc hC
  have h1 := Kd.R_grown (Kd.R_below hR5 (below_alloc (Below.refl _ w5) o)) hg (fun k hk e => by have := hown k e; omega)
  obtain ⟨A', c', he, hl', hC'⟩ := Kd.R_reads h1
  injection he with q1 q2 q3
  subst q1 q3
  have hC4 := oldK_C hC' hb
  refine ⟨A7, _, c7, hv, (Newest_T A7 c7 (xs ++ [liveV l]) w7 (C_of_vals hC ((hV.move hb).snoc ⟨A4, c4, rfl, hl', hC4⟩)) hc (by rw [List.length_append]; exact hlen) hsum).mono fun e w' h => h.to_good hok⟩
theorem sum_gone (xs : List (List S41)) (l : List S41) : sumLen (xs ++ [liveV l]) ≤ sumLen (xs ++ [l]) := by
  rw [sum_app, sum_app, sum_one, sum_one]
  have := (live_sub l).length_le
  omega
end Go.Proofs.Ythlelhndmnkmjaa.Pr
