/- skip.behind as an iterator (numbers of seat b) -/
import Derived.Test.YtnfliommpdjlkaaSkR
import Derived.Sort.LoopGhostIn
import Derived.Stop.RegionWithIn
import Derived.RegionIn
namespace Go.Proofs.Ytnfliommpdjlkaa.Pr
open Go.RowKit Go.Proofs.Ytnfliommpdjlkaa.Brid Go.Proofs.YtnfliommpdjlkaaW.PrintWords Go.Proofs.YtnfliommpdjlkaaW.PrintLast Go.Proofs.YtnfliommpdjlkaaW.PrintMore
set_option linter.unusedVariables false
set_option linter.unusedSimpArgs false
set_option maxHeartbeats 4000000
set_option maxRecDepth 100000
attribute [local go_sem] Oper.semAt_some
theorem nxt0 {v : List (Sk.Nd S25)} (h : ∀ n ∈ v, 0 < n.h) : Sk.nxt 0 v = v.head?.map (·.b) := by
  cases v with
  | nil => rfl
  | cons n r => rw [Sk.nxt_cons_hit (h n List.mem_cons_self)]; rfl
theorem behind_T (b : Nat) (w : World) : Calls Try.prog 57 #[.pointer (some ⟨b, 0, none⟩)] w fun e w' => e = .returned (.func (.func 60) #[] #[.pointer (some ⟨w.heap.size, 0, none⟩)]) ∧ w' = w.alloc (.cells #[.pointer (some ⟨b, 0, none⟩)] 66) := by
  go_enter Try.func57, Try.ntmps57
  go_wp2
  go_ret
  exact ⟨rfl, rfl⟩
theorem behind_G (p bb : Nat) (u v : List (Sk.Nd S25)) (O X : Nat → Prop) (c b : Int) (w : World) (M : SkM w O p (u ++ v) c b) (hpos : ∀ n ∈ u ++ v, 0 < n.h) (hb : w.heap[bb]? = some (.cells #[.pointer (some ⟨Sk.lst p 0 u, 0, none⟩)] 66 (0, 0))) (hXb : ¬ X bb) (hXO : ∀ k, O k → ¬ X k) :
    SeqG Try.prog 60 #[.pointer (some ⟨bb, 0, none⟩)] (fun n : Sk.Nd S25 => #[.pointer (some ⟨n.b, 0, none⟩)]) (fun pre n _ => pre ++ [n] <+: v) X (fun xs => xs = v) (fun pre => pre <+: v) w := by
  intro l J Jx W hBW hZ hJ hJx hY hJ0
  refine (callsIn_wide (n := 1)).1 (callsIn_of_wp Try.func60 rfl trivial ?_ rfl)
  simp only [Try.ntmps60, List.size_toArray, List.length_cons, List.length_nil, Nat.reduceAdd, Nat.reduceSub, Array.replicate_succ, Array.replicate_zero, List.push_toArray, List.append_toArray, List.nil_append, List.cons_append]
  have hbW := blk_below hb hBW
  have hc0 := (blk_cell hbW 0).trans rfl
  have hMW := Aside0.mk (M.below hBW)
  have hlk := hMW.out.chain.link (u := u) (v := v) rfl 0 (by omega)
  rw [nxt0 (fun n hn => hpos n (List.mem_append_right _ hn))] at hlk
  have HJ0 := Aside0.mk hJ0
  have HY := Aside0.mk hY
  have HXO := Aside0.mk hXO
  have HPOS := Aside0.mk hpos
  have HHB := Aside0.mk hb
  clear hJ0 hY hJ hJx hbW hXO hpos M hBW hb hXb
  gi_wp2
  gi_loopg [3] v.length (fun kx a wr => ∃ (pre rest : List (Sk.Nd S25)), v = pre ++ rest ∧ a = Sk.ptr (rest.head?.map (·.b)) ∧ rest.length ≤ kx ∧ Aside0 (J pre wr) ∧ Aside0 (Fr X W wr))
  case atStart => exact ⟨[], v, rfl, rfl, Nat.le_refl _, HJ0, ⟨Fr.refl _ _⟩⟩
  case round =>
    clear HJ0 hlk hc0
    obtain ⟨pre, rest, hv, ha, hkx, HJ, HF⟩ := hrel
    cases rest with
    | nil =>
      replace ha : u3 = .pointer none := ha
      subst ha
      rw [List.append_nil] at hv
      have HV := Aside0.mk hv
      clear hv
      gi_wp2
      refine ⟨fun _ h => (by cases h), ?_⟩
      gi_wp2
      go_end0
      exact ⟨⟨_, rfl⟩, .inl ⟨_, HV.out.symm, HJ.out⟩⟩
    | cons n rest =>
      replace ha : u3 = .pointer (some ⟨n.b, 0, none⟩) := ha
      subst ha
      have HV := Aside0.mk hv
      obtain ⟨fn, tmps, assign, body, hy, hR⟩ := HY.out pre n wr HJ.out ⟨rest, by rw [hv]; simp⟩ HF.out.size
      clear hv
      gi_wp2
      refine hR.mono ?_
      rintro e W3 (⟨rfl, hJ3, hF3⟩ | ⟨rfl, hJx3, _⟩)
      · have HF3 := Aside0.mk (HF.out.trans hF3)
        have HJ3 := Aside0.mk hJ3
        have hl3 := ((hMW.out.keep (fun k hk hkl => HF3.out.block k hkl (HXO.out k hk))).chain.node (u ++ pre) n rest (by rw [HV.out]; simp)).link 0 (by omega)
        rw [Sk.ptrAt, if_pos (HPOS.out n (by rw [HV.out]; simp)), nxt0 (fun m hm => HPOS.out m (by rw [HV.out]; simp [hm]))] at hl3
        have hl3 : W3.cell? ⟨n.b, 2, none⟩ = some (Sk.ptr (rest.head?.map (·.b))) := hl3
        clear hJ3 hF3 hR hy
        gi_wp2
        gi_roundg rest.length
        case measure => simp at hkx; omega
        case rel => exact ⟨pre ++ [n], rest, by rw [HV.out]; simp, rfl, Nat.le_refl _, HJ3, HF3⟩
      · have HJ3 := Aside0.mk hJx3
        clear hJx3 hR hy
        gi_wp2
        go_end0
        exact ⟨⟨_, rfl⟩, .inr ⟨pre ++ [n], ⟨rest, by rw [HV.out]; simp⟩, HJ3.out⟩⟩
end Go.Proofs.Ytnfliommpdjlkaa.Pr
