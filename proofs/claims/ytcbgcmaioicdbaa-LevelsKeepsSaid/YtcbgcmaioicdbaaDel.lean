/- slices.IndexFunc, ContainsFunc and DeleteFunc at flat structs, whatever the predicate. -/
import Derived.Test.YtcbgcmaioicdbaaPr0
import Derived.Test.YtcbgcmaioicdbaaStbr
import Derived.Test.YtcbgcmaioicdbaaDfn
import Derived.Shelf.AbstractIn
namespace Go.Proofs.Ytcbgcmaioicdbaa.Pr
open Go.RowKit Go.Proofs.YtcbgcmaioicdbaaW.PrintWords Go.Proofs.YtcbgcmaioicdbaaW.PrintLast Go.Proofs.YtcbgcmaioicdbaaW.PrintMore
attribute [local go_sem] max2_int min2_int max_two min_two max_three min_three max_four min_four
set_option linter.unusedVariables false
set_option linter.unusedSimpArgs false
def encE (x : S38) : List Value := [.int .i64 x.f0, .int .i64 x.f1, .bool x.f2.f0, .int .i64 x.f2.f1, .string x.f2.f2, .bool x.f3.f0, .int .i64 x.f3.f1, .string x.f3.f2]
theorem encE_one (x : S38) : ∀ v ∈ encE x, v.oneCell' = true := by
  intro v hv
  simp only [encE, List.mem_cons, List.not_mem_nil, or_false] at hv
  repeat (rcases hv with rfl | hv; · rfl)
  all_goals (subst hv; rfl)
def idxT {α : Type} (p : α → Bool) (l : List α) : Int := match l.findIdx? p with | some i => (i : Int) | none => -1
theorem idxT_hit {α : Type} (p : α → Bool) (l : List α) (k : Nat) (x : α) (hx : l[k]? = some x) (hp : p x = true) (hb : ∀ j y, j < k → l[j]? = some y → p y = false) : idxT p l = k := by
  have : l.findIdx? p = some k := by
    rw [List.findIdx?_eq_some_iff_getElem]
    obtain ⟨hk, he⟩ := List.getElem?_eq_some_iff.1 hx
    exact ⟨hk, by rw [he]; exact hp, fun j hj => by simpa using hb j l[j] hj (List.getElem?_eq_getElem _)⟩
  simp [idxT, this]
theorem idxT_miss {α : Type} (p : α → Bool) (l : List α) (hb : ∀ j y, j < l.length → l[j]? = some y → p y = false) : idxT p l = -1 := by
  have : l.findIdx? p = none := by
    rw [List.findIdx?_eq_none_iff]
    intro x hx
    obtain ⟨j, hj, rfl⟩ := List.mem_iff_getElem.1 hx
    exact hb j _ hj (List.getElem?_eq_getElem _)
  simp [idxT, this]
theorem idxT_any {α : Type} (p : α → Bool) (l : List α) : decide (0 ≤ idxT p l) = l.any p := by
  unfold idxT
  cases h : l.findIdx? p with
  | none =>
    rw [List.findIdx?_eq_none_iff] at h
    simp
    exact h
  | some i =>
    rw [List.findIdx?_eq_some_iff_getElem] at h
    obtain ⟨hi, hp, _⟩ := h
    simp
    exact ⟨_, List.getElem_mem hi, hp⟩
set_option maxHeartbeats 4000000 in
set_option maxRecDepth 100000 in
theorem IndexFunc_T (p : S38 → Bool) (g : Nat) (lb : Array Value) (eg : ∀ args w, (callFunc g args).run Try.prog w = .ok (.enter g args) w)
   (A0 : Option Addr) (c0 : Nat) (l0 : List S38) (w : World) (hr0 : Kd.C k38 w A0 l0.length l0)
   (hp : ∀ (W : World) (x : S38), Below w.heap.size w W → Calls Try.prog g (#[.agg #[.int .i64 x.f0, .int .i64 x.f1, .bool x.f2.f0, .int .i64 x.f2.f1, .string x.f2.f2, .bool x.f3.f0, .int .i64 x.f3.f1, .string x.f3.f2]] ++ lb) W fun e W' => e = .returned (.bool (p x)) ∧ Below W.heap.size W W') :
   Calls Try.prog 48 #[.slice A0 l0.length c0, .func (.func g) #[] lb] w fun e w' => e = .returned (.int .i64 (idxT p l0)) ∧ Below w.heap.size w w' := by
  have HR0 := Aside0.mk hr0
  have hlen : l0.length ≤ 9223372036854775807 := hr0.2.1
  have HP := Aside0.mk hp
  clear hr0 hp
  go_enter Try.func48, Try.ntmps48
  go_wp2
  go_loopg [5, 8] l0.length (fun gg _ s8 wr => ∃ kk : Nat, kk ≤ l0.length ∧ l0.length - kk ≤ gg ∧ s8 = .int .i64 kk ∧ Aside0 (Below w.heap.size w wr) ∧ Aside0 (∀ j y, j < kk → l0[j]? = some y → p y = false))
  case atStart => exact ⟨0, Nat.zero_le _, by omega, rfl, ⟨Below.refl _ w⟩, ⟨fun j y hj => absurd hj (Nat.not_lt_zero _)⟩⟩
  case round =>
    obtain ⟨kk, hkk, hg, rfl, BW, A⟩ := hrel
    by_cases hlt : kk < l0.length
    · have hltz : (kk : Int) < (l0.length : Int) := by omega
      obtain ⟨ad, e0, x0, x1, x2, x3, x4, x5, x6, x7⟩ := at_T38 HR0.out (kk : Int) (by omega) hltz
      cases e0
      have gx : l0[kk]? = some (rd_T38 l0 kk) := by simp [rd_T38, List.getD_eq_getElem?_getD, List.getElem?_eq_getElem hlt]
      have y0 := (Below.cell BW.out (World.block_lt_of_cell? _ _ x0)).trans x0; have y1 := (Below.cell BW.out (World.block_lt_of_cell? _ _ x1)).trans x1; have y2 := (Below.cell BW.out (World.block_lt_of_cell? _ _ x2)).trans x2; have y3 := (Below.cell BW.out (World.block_lt_of_cell? _ _ x3)).trans x3; have y4 := (Below.cell BW.out (World.block_lt_of_cell? _ _ x4)).trans x4; have y5 := (Below.cell BW.out (World.block_lt_of_cell? _ _ x5)).trans x5; have y6 := (Below.cell BW.out (World.block_lt_of_cell? _ _ x6)).trans x6; have y7 := (Below.cell BW.out (World.block_lt_of_cell? _ _ x7)).trans x7
      clear x0 x1 x2 x3 x4 x5 x6 x7
      simp only [Int.toNat_natCast] at y0 y1 y2 y3 y4 y5 y6 y7
      have hcall := HP.out wr (rd_T38 l0 kk) BW.out
      have GX := Aside0.mk gx
      clear gx
      generalize rd_T38 l0 kk = y at y0 y1 y2 y3 y4 y5 y6 y7 hcall GX
      cases hq : p y with
      | true =>
        rw [hq] at hcall
        have HQ := Aside0.mk hq
        clear hq
        go_wp2_with (go_at_fn g; refine hcall.mono ?_; rintro e w' ⟨rfl, hb'⟩)
        go_ret
        exact ⟨by rw [idxT_hit p l0 kk y GX.out HQ.out A.out]; rfl, below_then BW.out BW.out.size hb'⟩
      | false =>
        rw [hq] at hcall
        have HQ := Aside0.mk hq
        clear hq
        go_wp2_with (go_at_fn g; refine hcall.mono ?_; rintro e w' ⟨rfl, hb'⟩)
        go_roundg (l0.length - (kk + 1))
        case measure => omega
        case rel =>
          refine ⟨kk + 1, by omega, by omega, by go_num, ⟨below_then BW.out BW.out.size hb'⟩, ⟨fun j z hj hz => ?_⟩⟩
          by_cases e : j = kk
          · subst e
            rw [GX.out] at hz
            cases hz
            exact HQ.out
          · exact A.out j z (by omega) hz
    · have hltz : ¬ (kk : Int) < (l0.length : Int) := by omega
      have : kk = l0.length := by omega
      subst this
      go_wp2
      go_ret
      exact ⟨by rw [idxT_miss p l0 A.out]; rfl, BW.out⟩
theorem ContainsFunc_T (p : S38 → Bool) (g : Nat) (lb : Array Value) (eg : ∀ args w, (callFunc g args).run Try.prog w = .ok (.enter g args) w)
   (A0 : Option Addr) (c0 : Nat) (l0 : List S38) (w : World) (hr0 : Kd.C k38 w A0 l0.length l0)
   (hp : ∀ (W : World) (x : S38), Below w.heap.size w W → Calls Try.prog g (#[.agg #[.int .i64 x.f0, .int .i64 x.f1, .bool x.f2.f0, .int .i64 x.f2.f1, .string x.f2.f2, .bool x.f3.f0, .int .i64 x.f3.f1, .string x.f3.f2]] ++ lb) W fun e W' => e = .returned (.bool (p x)) ∧ Below W.heap.size W W') :
   Calls Try.prog 35 #[.slice A0 l0.length c0, .func (.func g) #[] lb] w fun e w' => e = .returned (.bool (l0.any p)) ∧ Below w.heap.size w w' := by
  rw [← idxT_any p l0]
  have C := IndexFunc_T p g lb eg A0 c0 l0 w hr0 hp
  clear hr0 hp eg
  go_enter Try.func35, Try.ntmps35
  go_wp2_with (go_at_call 48; refine C.mono ?_; rintro e w' ⟨rfl, hb'⟩)
  go_ret
  exact ⟨rfl, hb'⟩
instance inhE : Inhabited S38 := ⟨z38⟩
theorem rowE : Stab.RowB encE 8 := ⟨fun _ => rfl, encE_one⟩
theorem idxT_none {α : Type} {p : α → Bool} {l : List α} (h : l.any p = false) : idxT p l = -1 := idxT_miss p l (fun j y hj hy => by
  cases hp : p y with
  | false => rfl
  | true => rw [List.any_eq_true.2 ⟨y, List.mem_of_getElem? hy, hp⟩] at h; cases h)
theorem idxT_some {α : Type} [Inhabited α] {p : α → Bool} {l : List α} (h : l.any p = true) : ∃ i, i < l.length ∧ idxT p l = i ∧ p l[i]! = true ∧ (l.take i).filter (fun x => !p x) = l.take i := by
  unfold idxT
  cases hf : l.findIdx? p with
  | none =>
    rw [List.findIdx?_eq_none_iff] at hf
    obtain ⟨y, hy, hp⟩ := List.any_eq_true.1 h
    rw [hf y hy] at hp; cases hp
  | some i =>
    rw [List.findIdx?_eq_some_iff_getElem] at hf
    obtain ⟨hi, hp, hb⟩ := hf
    refine ⟨i, hi, rfl, by rw [getElem!_pos l i hi]; exact hp, List.filter_eq_self.2 (fun x hx => ?_)⟩
    obtain ⟨j, hj, rfl⟩ := List.mem_iff_getElem.1 hx
    have hj' : j < i := by rw [List.length_take] at hj; omega
    rw [List.getElem_take]
    simpa using hb j hj'
theorem filter_none {α : Type} {p : α → Bool} {l : List α} (h : l.any p = false) : l.filter (fun x => !p x) = l := List.filter_eq_self.2 (fun x hx => by
  cases hp : p x with
  | false => rfl
  | true => rw [List.any_eq_true.2 ⟨x, hx, hp⟩] at h; cases h)
set_option maxHeartbeats 4000000 in
set_option maxRecDepth 100000 in
theorem DeleteFunc_T (p : S38 → Bool) (g : Nat) (lb : Array Value) (eg : ∀ args w, (callFunc g args).run Try.prog w = .ok (.enter g args) w)
   (base : Nat) (P0 : Nat → Prop) (v : Value) (l0 : List S38) (w : World) (ho : Kd.R k38 38 w base P0 v l0) (hl : l0.length < 4611686018427387904)
   (hp : ∀ (W : World) (x : S38), w.grownBy W v.ownBlock → Calls Try.prog g (#[.agg #[.int .i64 x.f0, .int .i64 x.f1, .bool x.f2.f0, .int .i64 x.f2.f1, .string x.f2.f2, .bool x.f3.f0, .int .i64 x.f3.f1, .string x.f3.f2]] ++ lb) W fun e W' => e = .returned (.bool (p x)) ∧ Below W.heap.size W W') :
   Calls Try.prog 27 #[v, .func (.func g) #[] lb] w fun e w' => ∃ v', e = .returned v' ∧ v'.ownBlock = v.ownBlock ∧ Kd.R k38 38 w' base P0 v' (l0.filter (fun x => !p x)) ∧ w.grownBy w' v.ownBlock := by
  obtain ⟨A, c, rfl⟩ := Kd.R_slice ho
  have hC := (Kd.R_reads' ho).2.2
  have hcc := (Kd.R_reads' ho).2.1
  have hI := IndexFunc_T p g lb eg A c l0 w hC (fun W x hb => hp W x (grown_of_below hb _))
  cases ha : l0.any p with
  | false =>
    rw [idxT_none ha] at hI
    rw [filter_none ha]
    have HO := Aside0.mk ho
    clear ho hC hp eg
    go_enter Try.func27, Try.ntmps27
    go_wp2_with (go_at_call 48; refine hI.mono ?_; rintro e w' ⟨rfl, hb'⟩)
    go_ret
    exact ⟨_, rfl, rfl, Kd.R_step HO.out (fun k _ hk => hb'.block k hk), grown_of_below hb' _⟩
  | true =>
    obtain ⟨i, hi, hix, hpi, hbef⟩ := idxT_some ha
    rw [hix] at hI
    rcases Stab.own_cases k38 encE (fun _ => rfl) (fun h => k38_openM h) k38_mkM ho with ⟨h, he⟩ | ⟨gb, cap, cs, hv, hg, hh, hH, hback⟩
    · subst he; simp at hi
    · injection hv with h1 h2 h3
      subst h1; subst h3
      have hS := Stab.SWB.start hh hH
      have hown : (Value.slice (some ⟨gb, 0, none⟩) l0.length c).ownBlock = some gb := rfl
      have hd := Stab.delFunc (k := 8) Stab.layD encE p g lb eg z38 rfl gb 0 c l0.toArray w rowE hS i (by simpa using hi) (by simpa using hpi) (by simpa using hbef) (by simpa using hI) (fun W x hW => hp W x hW) (by simpa using hl) (by simpa using hcc)
      refine (show Calls Try.prog 27 #[.slice (some ⟨gb, 0, none⟩) l0.toArray.size c, .func (.func g) #[] lb] w _ from hd).mono ?_
      rintro e w' ⟨dk, rfl, hdk, hS'⟩
      obtain ⟨hok, inner, ⟨hlen, hown2⟩, hr⟩ := ho
      rcases hown2 with ⟨h, _⟩ | ⟨g2, cap2, cur, hv2, hg2, hh2, hnc, hcap, hcs, hin⟩
      · cases h
      · injection hv2 with q1 q2 q3
        injection q1 with q1
        injection q1 with q1 _ _
        subst q1; subst q3
        have hle : dk.size ≤ l0.length := by
          have := List.length_filter_le (fun x => !p x) l0
          have e1 : dk.toList.length = (l0.filter (fun x => !p x)).length := by rw [hdk]
          rw [Array.length_toList] at e1
          omega
        have hR := Stab.own_part k38 encE (fun _ => rfl) k38_mkM (hok gb rfl) hg hh2 hcs hcap (Nat.le_trans hle hnc) hS'
        have hdk' : dk.toList = l0.filter (fun x => !p x) := by simpa using hdk
        have hsz : dk.size = dk.toList.length := by simp
        refine ⟨_, rfl, rfl, ?_, hS'.keep⟩
        rw [hsz, ← hdk']
        exact hR
theorem R_one (w : World) (x : S38) : Kd.R k38 38 (w.alloc (.cells #[.int .i64 x.f0, .int .i64 x.f1, .bool x.f2.f0, .int .i64 x.f2.f1, .string x.f2.f2, .bool x.f3.f0, .int .i64 x.f3.f1, .string x.f3.f2] 38)) w.heap.size (fun _ => True) (.slice (some ⟨w.heap.size, 0, none⟩) 1 1) [x] := by
  refine ⟨fun _ _ => trivial, encE x, ?_, ?_⟩
  · have h2 := World.ownsRow_lit (base := w.heap.size) (e := 38) (size := k38.sz) w (encE x).toArray 1 (Nat.le_refl _) (by decide) (by rfl)
    exact (by simpa using h2 : (w.alloc (.cells (encE x).toArray 38)).ownsRow w.heap.size 38 k38.sz (.slice (some ⟨w.heap.size, 0, none⟩) 1 1) 1 (encE x))
  · have := Reps.snoc (R := k38.M (w.alloc (.cells #[.int .i64 x.f0, .int .i64 x.f1, .bool x.f2.f0, .int .i64 x.f2.f1, .string x.f2.f2, .bool x.f3.f0, .int .i64 x.f3.f1, .string x.f3.f2] 38)) w.heap.size (fun k => (fun _ => True) k ∧ some k ≠ (Value.slice (some ⟨w.heap.size, 0, none⟩) 1 1).ownBlock)) (Reps.none _ k38.sz) (p := x) (c := encE x) (k38_mkM _ _ _ x) rfl
    simpa using this
end Go.Proofs.Ytcbgcmaioicdbaa.Pr
