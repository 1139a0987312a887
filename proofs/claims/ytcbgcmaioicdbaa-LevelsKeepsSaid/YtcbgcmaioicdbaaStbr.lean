/- The stable sort over a row of the call's own, in the printed texts' words: its elements stand behind it in the stable sort's order, in the same row. -/
import Derived.Test.YtcbgcmaioicdbaaWWords
import Derived.Test.YtcbgcmaioicdbaaStbw
namespace Go.Proofs.Ytcbgcmaioicdbaa.Stab
open Go.Shelf Go.RowKit Go.Lib Go.Sort Go.Proofs.YtcbgcmaioicdbaaW.PrintWords
set_option linter.unusedVariables false
variable {P : Program} {α : Type} [Inhabited α] {k : Nat}
/-- Elements of one width, flat: their cells as an array. -/
theorem flatK_at (enc : α → List Value) (k : Nat) (hk : ∀ x, (enc x).length = k) (d : Array α) (j i : Nat) (hj : j < d.size) (hi : i < k) : (flatK enc k d)[j * k + i]! = (enc d[j]!)[i]! := by
  have hb := rowK_bnd d k j hj
  rw [get_flatK enc k d _ (by omega)]
  have e1 : (j * k + i) / k = j := (blk_iff k j _ (by omega)).1 ⟨by omega, by omega⟩
  have e2 : (j * k + i) % k = i := by rw [Nat.mod_eq_sub_div_mul, e1]; omega
  rw [e1, e2]
theorem own_cases (d : Kd α) (enc : α → List Value) (hk : ∀ x, (enc x).length = d.sz) (hM : ∀ {w : World} {base : Nat} {ok : Nat → Prop} {x : α} {cs : List Value}, d.M w base ok x cs → cs = enc x)
    (hM' : ∀ (w : World) (base : Nat) (ok : Nat → Prop) (x : α), d.M w base ok x (enc x)) {e : Nat} {w : World} {base : Nat} {ok : Nat → Prop} {v : Value} {xs : List α} (h : d.R e w base ok v xs) :
    (v = .slice none 0 0 ∧ xs = []) ∨ ∃ g cap cs, v = .slice (some ⟨g, 0, none⟩) xs.length cap ∧ base ≤ g ∧ w.heap[g]? = some (.cells cs e (0, 0)) ∧ HoldsK enc d.sz w g 0 xs.toArray ∧
      ∀ (W : World) (dk : Array α), dk.size = xs.length → SWB enc d.sz w g 0 dk W → d.R e W base ok v dk.toList := by
  obtain ⟨hok, inner, ⟨hlen, hown⟩, hr⟩ := h
  rcases hown with ⟨rfl, h0⟩ | ⟨g, cap, cur, rfl, hg, hh, hnc, hcap, hcs, hin⟩
  · exact .inl ⟨rfl, List.eq_nil_of_length_eq_zero h0⟩
  · refine .inr ⟨g, cap, cur, rfl, hg, hh, ?_, ?_⟩
    · intro t ht
      rw [size_flatK] at ht
      simp only [List.size_toArray] at ht
      have k0 : 0 < d.sz := by rcases Nat.eq_zero_or_pos d.sz with h0 | h0; · rw [h0] at ht; simp at ht
                               · exact h0
      have hj : t / d.sz < xs.length := (Nat.div_lt_iff_lt_mul k0).2 ht
      have hi : t % d.sz < d.sz := Nat.mod_lt _ k0
      have et : t = t / d.sz * d.sz + t % d.sz := (Nat.div_add_mod' t d.sz).symm
      refine ⟨?_, by rw [Nat.zero_add]; exact blk_frozen hh t⟩
      have hp := hr.2 (t / d.sz) _ (List.getElem?_eq_getElem hj)
      have hcell := hM hp
      have hflat : (flatK enc d.sz xs.toArray)[t]! = (enc xs[t / d.sz])[t % d.sz]! := by
        conv => lhs; rw [et]
        rw [flatK_at enc d.sz hk xs.toArray _ _ (by simpa using hj) hi]
        congr 2
        simp [hj]
      rw [hflat, ← hcell, Nat.zero_add, blk_cell hh t]
      have hlt : t < inner.length := by rw [hlen]; exact ht
      have hcl : ((inner.drop (t / d.sz * d.sz)).take d.sz).length = d.sz := by rw [hcell]; exact hk _
      rw [getElem!_pos _ _ (by rw [hcl]; exact hi), List.getElem_take, List.getElem_drop]
      have e3 : t / d.sz * d.sz + t % d.sz = t := et.symm
      simp only [e3]
      have hc : cur.toList[t]? = some inner[t] := by
        rw [← List.getElem?_eq_getElem hlt, ← hin, List.getElem?_take, if_pos ht]
      rw [Array.getElem?_toList] at hc
      simpa using hc
    · intro W dk hdk hS
      obtain ⟨e', cs0, cs, h1, h2, h3⟩ := hS.shape
      rw [hh] at h1
      injection h1 with h1
      injection h1 with h1 h4
      subst h1; subst h4
      have hH := hS.holds
      have hsz : xs.length * d.sz ≤ cs.size := by rw [h3, hcs]; exact Nat.mul_le_mul_right _ hnc
      have hcl : cs.toList.length = cs.size := by simp
      have hdl : dk.toList.length = xs.length := by simpa using hdk
      refine ⟨hok, cs.toList.take (xs.length * d.sz), ⟨?_, .inr ⟨g, cap, cs, by rw [hdl], hg, h2, by rw [hdl]; exact hnc, hcap, h3.trans hcs, by rw [hdl]⟩⟩, ?_⟩
      · rw [List.length_take, hcl, hdl]; omega
      · refine ⟨by rw [List.length_take, hcl, hdl]; omega, fun j p hj => ?_⟩
        obtain ⟨hjl, hjp⟩ := List.getElem?_eq_some_iff.1 hj
        have hjd : j < dk.size := by simpa using hjl
        have hb := rowK_bnd dk d.sz j hjd
        have : (((cs.toList.take (xs.length * d.sz)).drop (j * d.sz)).take d.sz) = enc p := by
          apply List.ext_getElem
          · rw [List.length_take, List.length_drop, List.length_take, hcl, hk]; rw [hdk] at hb; omega
          · intro i hi1 hi2
            have hi : i < d.sz := by rw [hk] at hi2; exact hi2
            rw [List.getElem_take, List.getElem_drop, List.getElem_take]
            have hc := (hH (j * d.sz + i) (by rw [size_flatK]; omega)).1
            rw [Nat.zero_add, blk_cell h2, flatK_at enc d.sz hk dk j i hjd hi] at hc
            have hx : dk[j]! = p := by
              rw [getElem!_pos dk j hjd, ← hjp]; simp
            rw [hx, getElem!_pos (enc p) i hi2] at hc
            obtain ⟨hq, hc⟩ := Array.getElem?_eq_some_iff.1 hc
            rw [Array.getElem_toList]
            exact hc
        rw [this]
        exact hM' _ _ _ _
/-- slices.SortStableFunc over a row of the call's own -/
theorem sortOwn (d : Kd α) (enc : α → List Value) (hL : Lay P d.sz) (hk : ∀ x, (enc x).length = d.sz) (h1 : ∀ x, ∀ v ∈ enc x, v.oneCell' = true) (hM : ∀ {w : World} {base : Nat} {ok : Nat → Prop} {x : α} {cs : List Value}, d.M w base ok x cs → cs = enc x)
    (hM' : ∀ (w : World) (base : Nat) (ok : Nat → Prop) (x : α), d.M w base ok x (enc x)) (cf : α → α → Int) (g : Nat) (cb : Array Value) (eg : ∀ args w, (callFunc g args).run P w = .ok (.enter g args) w) (hcmp : CmpB P g cb enc cf) (hO : SWO (ltOf cf))
    {base : Nat} {ok : Nat → Prop} {v : Value} {xs : List α} {w : World} (h : d.R 38 w base ok v xs) (hsz : xs.length < 1152921504606846976) :
    Calls P 31 #[v, .func (.func g) #[] cb] w fun e w' => e = .returned (.tuple #[]) ∧ d.R 38 w' base ok v (ssort (ltOf cf) xs) ∧ w.grownBy w' v.ownBlock := by
  rcases own_cases d enc hk hM hM' h with ⟨rfl, rfl⟩ | ⟨b, cap, cs, rfl, hb, hh, hH, hback⟩
  · refine (sortStable_nil hL g cb w).mono ?_
    rintro e w' ⟨rfl, rfl⟩
    exact ⟨rfl, h, ⟨rfl, rfl, rfl, Nat.le_refl _, fun _ _ _ => rfl⟩⟩
  · have hS : SWB enc d.sz w b 0 xs.toArray w := SWB.start hh hH
    have hc := sortStable hL enc cf g cb b 0 cap xs.toArray w w eg hcmp ⟨hk, h1⟩ hS hO (by simpa using hsz)
    rw [show xs.toArray.size = xs.length from by simp] at hc
    refine hc.mono ?_
    rintro e w' ⟨rfl, hS'⟩
    · have hs := stab_is hO xs.toArray
      rw [show xs.toArray.size = xs.length from by simp] at hs
      have hl : (stab (ltOf cf) xs.length xs.toArray).size = xs.length := by
        have := congrArg List.length hs
        rw [len_ssort] at this
        simpa using this
      have hR := hback w' _ hl hS'
      rw [hs] at hR
      exact ⟨rfl, hR, hS'.keep⟩
end Go.Proofs.Ytcbgcmaioicdbaa.Stab
