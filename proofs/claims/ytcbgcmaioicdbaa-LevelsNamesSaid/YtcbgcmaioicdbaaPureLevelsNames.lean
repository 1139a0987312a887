/- A plan names parts of its two levels alone, each once, and all of the next level that overlap one of the chosen; of level 0 all. -/
import Derived.Test.YtcbgcmaioicdbaaRdk
import Derived.Test.YtcbgcmaioicdbaaPr0
import Derived.Test.YtcbgcmaioicdbaaPrf10
import Derived.Test.YtcbgcmaioicdbaaPrf17
import Derived.Test.YtcbgcmaioicdbaaPrf18
import Derived.Test.YtcbgcmaioicdbaaPrf19
import Derived.Test.YtcbgcmaioicdbaaPrf24
import Derived.Test.YtcbgcmaioicdbaaPrf35xc
import Derived.Test.YtcbgcmaioicdbaaPrf4
import Derived.Test.YtcbgcmaioicdbaaPrzLev
import Derived.Test.YtcbgcmaioicdbaaPrzLev2
import Derived.Test.YtcbgcmaioicdbaaPrzLev3
import Derived.Test.YtcbgcmaioicdbaaPrzLev4
import Derived.Test.YtcbgcmaioicdbaaPrzLev5
namespace Go.Proofs.Ytcbgcmaioicdbaa.Pr
open Go.RowKit Go.Proofs.Ytcbgcmaioicdbaa.Brid Go.Proofs.YtcbgcmaioicdbaaW.PrintWords Go.Proofs.YtcbgcmaioicdbaaW.PrintLast Go.Proofs.YtcbgcmaioicdbaaW.PrintMore
set_option linter.unusedVariables false
set_option linter.unusedSimpArgs false
theorem at.loop (q : List Pt) (hq : q.length ≤ 1000) (p : Pt) (hu : ∀ y ∈ q, y.f0 = p.f0 → y = p) : ∀ (m n : Nat), q.length - n = m → n ≤ q.length → p ∈ q.drop n → ∀ k, m < k →
  tithebarnlaw17_at.l0 k q p.f0 (n : Int) = some (p.f0, p.f1, p.f2.f0, p.f2.f1, p.f2.f2, p.f3.f0, p.f3.f1, p.f3.f2, true) := by
 intro m
 induction m with
 | zero =>
  intro n hm hn hp k hk
  rw [List.drop_eq_nil_of_le (by omega)] at hp; cases hp
 | succ m ih =>
  intro n hm hn hp k hk
  obtain ⟨k, rfl⟩ : ∃ k', k = k' + 1 := ⟨k - 1, by omega⟩
  have hlt : n < q.length := by omega
  have hd : q.drop n = q[n] :: q.drop (n + 1) := List.drop_eq_getElem_cons hlt
  rw [tithebarnlaw17_at.l0, if_pos (by omega), if_pos (by omega), rdP_at q n hlt, wr_one n (by omega)]
  by_cases hc : q[n].f0 = p.f0
  ·rw [if_pos hc, hu _ (List.getElem_mem hlt) hc]
  ·rw [if_neg hc]
   rw [hd] at hp
   rcases List.mem_cons.1 hp with h | h
   ·exact absurd (congrArg (·.f0) h.symm) hc
   ·exact ih (n + 1) (by omega) (by omega) h k (by omega)
theorem has.loop (ids : List Int) (v : Int) (hi : ids.length ≤ 100000) : ∀ (m n : Nat), ids.length - n = m → n ≤ ids.length → ∀ k, m < k → tithebarnlaw17_has.l0 k ids v (n : Int) = some ((ids.drop n).any (fun y => y == v)) := by
 intro m
 induction m with
 | zero =>
  intro n hm hn k hk
  obtain ⟨k, rfl⟩ : ∃ k', k = k' + 1 := ⟨k - 1, by omega⟩
  rw [tithebarnlaw17_has.l0, if_neg (by omega), List.drop_eq_nil_of_le (by omega)]; rfl
 | succ m ih =>
  intro n hm hn k hk
  obtain ⟨k, rfl⟩ : ∃ k', k = k' + 1 := ⟨k - 1, by omega⟩
  have hlt : n < ids.length := by omega
  rw [tithebarnlaw17_has.l0, if_pos (by omega), if_pos (by omega), rdI_at ids n hlt, wr_one n (by omega), List.drop_eq_getElem_cons hlt, List.any_cons]
  by_cases hc : ids[n] = v
  ·rw [if_pos hc, beq_iff_eq.2 hc]; rfl
  ·rw [if_neg hc, beq_eq_false_iff_ne.2 hc, Bool.false_or]; exact ih (n + 1) (by omega) (by omega) k (by omega)
theorem has.is (ids : List Int) (v : Int) (hi : ids.length ≤ 100000) (k : Nat) (hk : ids.length < k) : tithebarnlaw17_has.f k ids v = some (ids.any (fun y => y == v)) := by
 unfold tithebarnlaw17_has.f
 exact has.loop ids v hi ids.length 0 (by omega) (by omega) k hk
theorem names.l2 (q c : List Pt) (ids : List Int) (lv : Int) (bot : Bool) (h0 : 0 ≤ lv) (h9 : lv ≤ 9) (hq : q.length ≤ 1000) (hok : ∀ p ∈ q, OkP p) (hokc : ∀ p ∈ c, OkP p) (hcl : c.length ≤ 1000) (hi : ids.length ≤ 10000) (i : Nat) (hin : i < q.length) (pids : List Int)
  (h1 : q[i].f1 = lv + 1 → ∀ y ∈ c, ovV q[i] y = true → ids.any (fun v => v == q[i].f0) = true) (h2 : lv = 0 → q[i].f1 = 0 → ids.any (fun v => v == q[i].f0) = true) (R : Option Bool) (K : Nat) (hK : 10000 < K)
  (hc : ∀ k, K ≤ k → tithebarnlaw17_LevelsNames.l1 k q c ids ((i + 1 : Nat) : Int) lv (lv + 1) pids bot = R) : ∀ (d j : Nat), c.length - j = d → j ≤ c.length → ∀ k, K + 2 * d + 2 ≤ k →
  tithebarnlaw17_LevelsNames.l2 k q c ids (i : Int) (j : Int) lv (lv + 1) pids bot = R := by
 intro d
 induction d with
 | zero =>
  intro j hd hj k hk
  obtain ⟨k, rfl⟩ : ∃ k', k = k' + 2 := ⟨k - 2, by omega⟩
  have e6 : tithebarnlaw17_LevelsNames.j6 (k + 1) q c ids (i : Int) false lv (lv + 1) pids bot = R := by
   rw [tithebarnlaw17_LevelsNames.j6, if_neg (by decide), wr_one i (by omega)]; exact hc k (by omega)
  rw [tithebarnlaw17_LevelsNames.l2, if_neg (by omega)]
  by_cases hz : lv = 0
  ·rw [if_pos hz, if_pos (by omega), if_pos (by omega), rdP_at q i hin]
   by_cases hl : q[i].f1 = 0
   ·rw [if_pos hl, has.is ids _ (by omega) _ (by omega), Option.bind_some, h2 hz hl]; exact e6
   ·rw [if_neg hl]; exact e6
  ·rw [if_neg hz]; exact e6
 | succ d ih =>
  intro j hd hj k hk
  obtain ⟨k, rfl⟩ : ∃ k', k = k' + 2 := ⟨k - 2, by omega⟩
  have hlt : j < c.length := by omega
  have e5 : tithebarnlaw17_LevelsNames.j5 (k + 1) q c ids (i : Int) (j : Int) false lv (lv + 1) pids bot = R := by
   rw [tithebarnlaw17_LevelsNames.j5, if_neg (by decide), wr_one j (by omega)]; exact ih (j + 1) (by omega) (by omega) k (by omega)
  rw [tithebarnlaw17_LevelsNames.l2, if_pos (by omega), if_pos (by omega), if_pos (by omega), rdP_at q i hin, rdP_at c j hlt]
  by_cases hl : q[i].f1 = lv + 1
  ·rw [if_pos hl, if_pos (by omega), refOverlap.is _ _ (hok _ (List.getElem_mem _)) (hokc _ (List.getElem_mem _)), Option.bind_some]
   cases ho : ovV q[i] c[j] with
   | true => rw [if_pos rfl, has.is ids _ (by omega) _ (by omega), Option.bind_some, h1 hl _ (List.getElem_mem _) ho]; exact e5
   | false => rw [if_neg (by decide)]; exact e5
  ·rw [if_neg hl]; exact e5
set_option maxRecDepth 100000 in
theorem names.l1 (q c : List Pt) (ids : List Int) (lv : Int) (bot : Bool) (h0 : 0 ≤ lv) (h9 : lv ≤ 9) (hq : q.length ≤ 100) (hok : ∀ p ∈ q, OkP p) (hokc : ∀ p ∈ c, OkP p) (hcl : c.length ≤ 100) (hi : ids.length ≤ 10000) (hne : 0 < c.length) (pids : List Int)
  (h1 : ∀ p ∈ q, p.f1 = lv + 1 → ∀ y ∈ c, ovV p y = true → ids.any (fun v => v == p.f0) = true) (h2 : lv = 0 → ∀ p ∈ q, p.f1 = 0 → ids.any (fun v => v == p.f0) = true) :
  ∀ (m n : Nat), q.length - n = m → n ≤ q.length → ∀ k, 10001 + m * 300 < k → tithebarnlaw17_LevelsNames.l1 k q c ids (n : Int) lv (lv + 1) pids bot = some true := by
 intro m
 induction m with
 | zero =>
  intro n hm hn k hk
  obtain ⟨k, rfl⟩ : ∃ k', k = k' + 1 := ⟨k - 1, by omega⟩
  rw [tithebarnlaw17_LevelsNames.l1, if_neg (by omega), if_pos (wr_small _ (by omega) (by omega)).symm, decide_eq_true (by omega)]
 | succ m ih =>
  intro n hm hn k hk
  obtain ⟨k, rfl⟩ : ∃ k', k = k' + 1 := ⟨k - 1, by omega⟩
  have hlt : n < q.length := by omega
  rw [tithebarnlaw17_LevelsNames.l1, if_pos (by omega)]
  exact names.l2 q c ids lv bot h0 h9 (by omega) hok hokc (by omega) hi n hlt pids (h1 _ (List.getElem_mem _)) (fun hz => h2 hz _ (List.getElem_mem _)) (some true) (10002 + m * 300) (by omega) (fun k hk => ih (n + 1) (by omega) (by omega) k (by omega)) c.length 0 (by omega) (by omega) k (by omega)
theorem names.l0 (q c nx : List Pt) (lv : Int) (bot : Bool) (h0 : 0 ≤ lv) (h9 : lv ≤ 9) (hq : q.length ≤ 100) (hok : ∀ p ∈ q, OkP p) (hcl : c.length ≤ 100) (hnl : nx.length ≤ 100) (hne : 0 < c.length) (hu : unV q = true) (hP : Plan q lv c nx) :
  ∀ (m n : Nat), (c ++ nx).length - n = m → n ≤ (c ++ nx).length → ∀ k, 50000 + 2 * m < k →
  tithebarnlaw17_LevelsNames.l0 k q (c.take n) (((c ++ nx).take n).map (·.f0)) (n : Int) lv (lv + 1) ((c ++ nx).map (·.f0)) bot = some true := by
 have hL : (c ++ nx).length ≤ 200 := by rw [List.length_append]; omega
 intro m
 induction m with
 | zero =>
  intro n hm hn k hk
  obtain ⟨k, rfl⟩ : ∃ k', k = k' + 1 := ⟨k - 1, by omega⟩
  obtain rfl : n = (c ++ nx).length := by omega
  have hct : c.take (c ++ nx).length = c := List.take_of_length_le (by rw [List.length_append]; omega)
  rw [tithebarnlaw17_LevelsNames.l0, if_neg (by rw [List.length_map]; omega), List.take_length, hct]
  have hin : ∀ p ∈ c ++ nx, ((c ++ nx).map (·.f0)).any (fun v => v == p.f0) = true := fun p hp => List.any_eq_true.2 ⟨p.f0, List.mem_map.2 ⟨p, hp, rfl⟩, beq_self_eq_true _⟩
  exact names.l1 q c _ lv bot h0 h9 hq hok (fun p hp => hok p (hP.inq p (List.mem_append_left _ hp))) hcl (by rw [List.length_map]; omega) hne _
   (fun p hp h1 y hy hov => hin p (List.mem_append_right _ (hP.over p hp h1 y hy hov))) (fun hz p hp h1 => hin p (List.mem_append_left _ (hP.zero hz p hp h1))) q.length 0 (by omega) (by omega) k (by omega)
 | succ m ih =>
  intro n hm hn k hk
  obtain ⟨k, rfl⟩ : ∃ k', k = k' + 2 := ⟨k - 2, by omega⟩
  have hlt : n < (c ++ nx).length := by omega
  have hih := ih (n + 1) (by omega) (by omega) k (by omega)
  obtain ⟨p, hp⟩ : ∃ p, p = (c ++ nx)[n] := ⟨_, rfl⟩
  have hpm : p ∈ c ++ nx := by rw [hp]; exact List.getElem_mem _
  have hpq := hP.inq p hpm
  have hrd : rd ((c ++ nx).map (·.f0)) (n : Int) = p.f0 := by rw [rdI_at _ n (by rw [List.length_map]; exact hlt), List.getElem_map, hp]
  have hat : tithebarnlaw17_at.f (k + 1) q p.f0 = some (p.f0, p.f1, p.f2.f0, p.f2.f1, p.f2.f2, p.f3.f0, p.f3.f1, p.f3.f2, true) := by
   unfold tithebarnlaw17_at.f
   exact at.loop q (by omega) p (fun y hy he => unV_same q hu y p hy hpq he) q.length 0 (by omega) (by omega) hpq (k + 1) (by omega)
  have hha : (((c ++ nx).take n).map (·.f0)).any (fun v => v == p.f0) = false := by
   refine List.any_eq_false.2 (fun v hv => ?_)
   obtain ⟨y, hy, rfl⟩ := List.mem_map.1 hv
   obtain ⟨j, hj, rfl⟩ := List.mem_take_iff_getElem.1 hy
   have := (List.pairwise_iff_getElem.1 hP.apart) j n (by omega) hlt (by omega)
   rw [beq_eq_false_iff_ne.2 (fun e => this (by rw [← hp]; exact e.symm))]; exact Bool.false_ne_true
  have hh : tithebarnlaw17_has.f (k + 1) (((c ++ nx).take n).map (·.f0)) p.f0 = some false := by
   rw [has.is _ _ (by rw [List.length_map, List.length_take]; omega) (k + 1) (by rw [List.length_map, List.length_take]; omega), hha]
  have hids : ((c ++ nx).take n).map (·.f0) ++ [p.f0] = ((c ++ nx).take (n + 1)).map (·.f0) := by rw [List.take_succ_eq_append_getElem hlt, List.map_append, hp]; rfl
  have hj : tithebarnlaw17_LevelsNames.j2 (k + 1) q (c.take n) (((c ++ nx).take n).map (·.f0)) (n : Int) false lv (lv + 1) ((c ++ nx).map (·.f0)) bot p.f0 p.f1 p.f2.f0 p.f2.f1 p.f2.f2 p.f3.f0 p.f3.f1 p.f3.f2 = some true := by
   rw [tithebarnlaw17_LevelsNames.j2, if_neg (by decide), if_pos (by rw [List.length_map, List.length_take]; omega), Option.bind_some, hids, wr_one n (by omega)]
   by_cases hnc : n < c.length
   ·have hpc : p = c[n] := by rw [hp, List.getElem_append_left hnc]
    have h1 : p.f1 = lv := hP.top p (by rw [hpc]; exact List.getElem_mem _)
    rw [if_pos h1, if_pos (by rw [List.length_take]; omega)]
    rw [List.take_succ_eq_append_getElem hnc, ← hpc] at hih
    exact hih
   ·have hpn : p ∈ nx := by rw [hp, List.getElem_append_right (by omega)]; exact List.getElem_mem _
    have h1 : p.f1 = lv + 1 := hP.next p hpn
    rw [if_neg (by omega)]
    rw [List.take_of_length_le (by omega)] at hih
    rw [List.take_of_length_le (by omega)]
    exact hih
  rw [tithebarnlaw17_LevelsNames.l0, if_pos (by rw [List.length_map]; omega), if_pos (by omega), hrd, hat, Option.bind_some]
  simp only
  rw [if_pos trivial]
  by_cases h1 : p.f1 = lv
  ·rw [if_pos h1, hh, Option.bind_some]; exact hj
  ·rw [if_neg h1]
   have h2 : p.f1 = lv + 1 := by
    rcases List.mem_append.1 hpm with h | h
    ·exact absurd (hP.top p h) h1
    ·exact hP.next p h
   rw [if_pos h2, hh, Option.bind_some]; exact hj
theorem LevelsNames_true (k : Nat) (hk : 100000 ≤ k) (l0 : List Pt) (hok : ∀ p ∈ l0, OkP p) : tithebarnlaw17_LevelsNames.f k l0 = some true := by
 unfold tithebarnlaw17_LevelsNames.f
 rw [lives17 k (by omega), Option.bind_some, if_pos rfl, early.is l0, Option.bind_some]
 have hlen : (l0.take 80).length ≤ 80 := by rw [List.length_take]; omega
 have hok2 : ∀ p ∈ l0.take 80, OkP p := fun p hp => hok p (List.mem_of_mem_take hp)
 generalize l0.take 80 = q at hlen hok2
 have hj : ∀ a b c d, tithebarnlaw17_LevelsNames.j0 k q true a b c d = some true := by
  intro a b c d
  obtain ⟨k, rfl⟩ : ∃ k', k = k' + 1 := ⟨k - 1, by omega⟩
  rw [tithebarnlaw17_LevelsNames.j0, if_pos rfl]
 cases hf : fullV q with
 | none =>
  rw [pick_none q (by omega) hf, Option.bind_some, calm.is q (by omega), show fullR q = (0, false) by unfold fullR; rw [hf], Option.bind_some]
  exact hj _ _ _ _
 | some lv =>
  obtain ⟨x, t, h1, h2, h3, h4⟩ := pick_some q (by omega) lv hf
  have hlv := (fullV_lt hf).1
  rw [h4, Option.bind_some, calm.is q (by omega), show fullR q = ((lv : Int), true) by unfold fullR; rw [hf], Option.bind_some]
  show (tithebarnlaw17_unlike.f k q).bind (fun t401 => tithebarnlaw17_LevelsNames.j0 k q (!t401) (planV q lv x t).1 (planV q lv x t).2.1 (planV q lv x t).2.2.1 (planV q lv x t).2.2.2.1) = _
  rw [unlike.is q hlen k (by omega), Option.bind_some]
  cases hu : unV q with
  | false => exact hj _ _ _ _
  | true =>
   obtain ⟨k, rfl⟩ : ∃ k', k = k' + 1 := ⟨k - 1, by omega⟩
   have hcl := onV_len q lv
   have hnl : (nextV q ((lv : Int) + 1) (spanV x t)).length ≤ 80 := by
    unfold nextV; rw [ssortP_len]
    exact Nat.le_trans (List.length_filter_le _ _) (Nat.le_trans (onV_len q _) hlen)
   rw [tithebarnlaw17_LevelsNames.j0, if_neg (by decide)]
   have hLl : ((x :: t) ++ nextV q ((lv : Int) + 1) (spanV x t)).length ≤ 170 := by rw [List.length_append, List.length_cons]; omega
   have hcl2 : (x :: t).length ≤ 100 := by rw [List.length_cons]; omega
   have hP := Plan.of q hu lv x t h1
   have hb : (planV q lv x t).2.2.2.1 = !(q.any (fun p => decide ((lv : Int) + 1 < p.f1))) := rfl
   have h := names.l0 q (x :: t) (nextV q ((lv : Int) + 1) (spanV x t)) lv (planV q lv x t).2.2.2.1 (by omega) (by omega) (by omega) hok2 hcl2 (by omega) (by rw [List.length_cons]; omega) hu hP ((x :: t) ++ nextV q ((lv : Int) + 1) (spanV x t)).length 0 (Nat.sub_zero _) (Nat.zero_le _)
   have h2 := h k (by omega)
   rw [List.take_zero, List.take_zero, List.map_nil] at h2
   exact h2
theorem LevelsNames_walk (W : World) (A0 : Option Addr) (c0 : Nat) (l0 : List (S38)) (hc0 : l0.length ≤ c0) (hr0 : Kd.C k38 W A0 l0.length l0) (b0 : BL B38 l0 maxLen) :
  Calls Try.prog 4 #[.slice A0 l0.length c0] W fun e W' => e = .returned (.bool true) ∧ Below W.heap.size W W' := by
 obtain ⟨g0, g1⟩ := b0
 exact tithebarnlaw17_LevelsNames.calls 1000000 A0 c0 l0 true W hr0 hc0 (LevelsNames_true 1000000 (by omega) l0 (okP_of (Nat.le_refl _) g1))

end Go.Proofs.Ytcbgcmaioicdbaa.Pr
