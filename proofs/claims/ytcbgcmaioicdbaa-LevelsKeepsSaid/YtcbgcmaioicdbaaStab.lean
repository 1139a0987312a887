/- The library's stable sort (insertion blocks, merges by rotation), in plain Lean: what it leaves is the stable sort of what was there. -/
import Derived.Sort.WalkA
import Derived.Sort.LotA
namespace Go.Proofs.Ytcbgcmaioicdbaa.Stab
set_option linter.unusedVariables false
set_option linter.unusedSimpArgs false
open Go.Sort
variable {α : Type} [Inhabited α]
/-! ### The functions, after the library's text -/
/-- swaps of a range's elements with another one's: r more, from i on -/
def swpR (a b : Nat) : Nat → Nat → Array α → Array α
  | 0, _, d => d
  | r + 1, i, d => swpR a b r (i + 1) (swp d (a + i) (b + i))
def rot (m : Nat) (i j : Nat) (d : Array α) : Array α :=
  if h0 : i = 0 ∨ j = 0 then d else
  if i = j then swpR (m - i) m i 0 d else
  if i > j then rot m (i - j) j (swpR (m - i) m j 0 d) else rot m i (j - i) (swpR (m - i) (m + j - i) i 0 d)
termination_by i + j
decreasing_by all_goals omega
/-- the least place from i on, below j, where p does not hold -/
def bs (p : Nat → Bool) (i j : Nat) : Nat :=
  if h : i < j then (if p ((i + j) / 2) then bs p ((i + j) / 2 + 1) j else bs p i ((i + j) / 2)) else i
termination_by j - i
decreasing_by all_goals omega
def upS : Nat → Nat → Array α → Array α
  | 0, _, d => d
  | c + 1, k, d => upS c (k + 1) (swp d k (k + 1))
def dnS : Nat → Nat → Array α → Array α
  | 0, _, d => d
  | c + 1, k, d => dnS c (k - 1) (swp d k (k - 1))
section
variable (lt : α → α → Bool)
def sm0 (a m b : Nat) : Nat := if m > (a + b) / 2 then (a + b) / 2 + m - b else a
def smr (a m b : Nat) : Nat := if m > (a + b) / 2 then (a + b) / 2 else m
def smS (a m b : Nat) (d : Array α) : Nat := bs (fun c => !lt d[(a + b) / 2 + m - 1 - c]! d[c]!) (sm0 a m b) (smr a m b)
def smE (a m b : Nat) (d : Array α) : Nat := (a + b) / 2 + m - smS lt a m b d
def smRot (a m b : Nat) (d : Array α) : Array α := if smS lt a m b d < m ∧ m < smE lt a m b d then rot m (m - smS lt a m b d) (smE lt a m b d - m) d else d
def symM : Nat → Nat → Nat → Nat → Array α → Array α
  | 0, _, _, _, d => d
  | N + 1, a, m, b, d =>
    if m - a = 1 then upS (bs (fun h => lt d[h]! d[a]!) m b - 1 - a) a d
    else if b - m = 1 then dnS (m - bs (fun h => !lt d[m]! d[h]!) a m) m d
    else
      let d1 := smRot lt a m b d
      let d2 := if a < smS lt a m b d ∧ smS lt a m b d < (a + b) / 2 then symM N a (smS lt a m b d) ((a + b) / 2) d1 else d1
      if (a + b) / 2 < smE lt a m b d ∧ smE lt a m b d < b then symM N ((a + b) / 2) (smE lt a m b d) b d2 else d2
def insB (n a : Nat) (d : Array α) : Array α := if a + 20 ≤ n then insB n (a + 20) (insertionSort lt d a (a + 20)) else insertionSort lt d a n
termination_by n - a
decreasing_by omega
def mergeB (s n a : Nat) (d : Array α) : Array α :=
  if h : 0 < s ∧ a + 2 * s ≤ n then mergeB s n (a + 2 * s) (symM lt (2 * s + 1) a (a + s) (a + 2 * s) d) else if a + s < n then symM lt (n - a + 1) a (a + s) n d else d
termination_by n - a
decreasing_by omega
def dbl (s n : Nat) (d : Array α) : Array α := if h : 0 < s ∧ s < n then dbl (s * 2) n (mergeB lt s n 0 d) else d
termination_by n - s
decreasing_by omega
def stab (n : Nat) (d : Array α) : Array α := dbl lt 20 n (insB lt n 0 d)
end
/-! ### Sizes -/
theorem size_swpR (a b : Nat) : ∀ (r i : Nat) (d : Array α), (swpR a b r i d).size = d.size
  | 0, _, _ => rfl
  | r + 1, i, d => by rw [swpR, size_swpR a b r, size_swp]
theorem size_upS : ∀ (c k : Nat) (d : Array α), (upS c k d).size = d.size
  | 0, _, _ => rfl
  | c + 1, k, d => by rw [upS, size_upS c, size_swp]
theorem size_dnS : ∀ (c k : Nat) (d : Array α), (dnS c k d).size = d.size
  | 0, _, _ => rfl
  | c + 1, k, d => by rw [dnS, size_dnS c, size_swp]
theorem size_rot (m : Nat) : ∀ (N i j : Nat) (d : Array α), i + j < N → (rot m i j d).size = d.size := by
  intro N
  induction N with
  | zero => intro i j d h; omega
  | succ N ih =>
    intro i j d h
    rw [rot]
    split
    · rfl
    · split
      · exact size_swpR _ _ _ _ _
      · split
        · rw [ih _ _ _ (by omega), size_swpR]
        · rw [ih _ _ _ (by omega), size_swpR]
/-! ### The stable sort of a list -/
section
variable (lt : α → α → Bool)
def ins (x : α) : List α → List α
  | [] => [x]
  | y :: l => if lt y x then y :: ins x l else x :: y :: l
def mrg (l r : List α) : List α := l.foldr (ins lt) r
def ssort (l : List α) : List α := mrg lt l []
def Srt (l : List α) : Prop := l.Pairwise (fun x y => lt y x = false)
end
variable {lt : α → α → Bool}
omit [Inhabited α] in
theorem mem_ins (x z : α) : ∀ l, z ∈ ins lt x l ↔ z = x ∨ z ∈ l
  | [] => by simp [ins]
  | y :: l => by
    unfold ins
    split
    · rw [List.mem_cons, mem_ins x z l, List.mem_cons]
      constructor <;> (intro h; rcases h with h | h | h <;> simp [h])
    · simp
omit [Inhabited α] in
theorem mem_mrg (z : α) : ∀ l r, z ∈ mrg lt l r ↔ z ∈ l ∨ z ∈ r
  | [], r => by simp [mrg]
  | x :: l, r => by
    show z ∈ ins lt x (mrg lt l r) ↔ _
    rw [mem_ins, mem_mrg z l r, List.mem_cons, or_assoc]
omit [Inhabited α] in
theorem ins_perm (x : α) : ∀ l, (ins lt x l).Perm (x :: l)
  | [] => List.Perm.refl _
  | y :: l => by
    unfold ins
    split
    · exact ((ins_perm x l).cons y).trans (List.Perm.swap _ _ _)
    · exact List.Perm.refl _
omit [Inhabited α] in
theorem mrg_perm : ∀ l r, (mrg lt l r).Perm (l ++ r)
  | [], r => List.Perm.refl _
  | x :: l, r => (ins_perm x _).trans ((mrg_perm l r).cons x)
omit [Inhabited α] in
theorem ssort_perm (l : List α) : (ssort lt l).Perm l := by have := mrg_perm (lt := lt) l []; rwa [List.append_nil] at this
omit [Inhabited α] in
theorem mrg_len (l r : List α) : (mrg lt l r).length = l.length + r.length := by rw [(mrg_perm l r).length_eq, List.length_append]
omit [Inhabited α] in
theorem mrg_app (l1 l2 r : List α) : mrg lt (l1 ++ l2) r = mrg lt l1 (mrg lt l2 r) := by simp [mrg, List.foldr_append]
omit [Inhabited α] in
theorem srt_ins (hO : SWO lt) (x : α) : ∀ l, Srt lt l → Srt lt (ins lt x l)
  | [], _ => by simp [ins, Srt]
  | y :: l, h => by
    unfold ins
    have h' := List.pairwise_cons.1 h
    split
    · rename_i hy
      refine List.pairwise_cons.2 ⟨fun z hz => ?_, srt_ins hO x l h'.2⟩
      rcases (mem_ins x z l).1 hz with rfl | hz
      · exact hO.asymmA hy
      · exact h'.1 z hz
    · rename_i hy
      have hy' : lt y x = false := by cases hh : lt y x <;> simp_all
      refine List.pairwise_cons.2 ⟨fun z hz => ?_, h⟩
      rcases List.mem_cons.1 hz with rfl | hz
      · exact hy'
      · exact hO.ntrans z y x (h'.1 z hz) hy'
omit [Inhabited α] in
theorem srt_mrg (hO : SWO lt) : ∀ l r, Srt lt r → Srt lt (mrg lt l r)
  | [], _, h => h
  | x :: l, r, h => srt_ins hO x _ (srt_mrg hO l r h)
omit [Inhabited α] in
theorem srt_ssort (hO : SWO lt) (l : List α) : Srt lt (ssort lt l) := srt_mrg hO l [] List.Pairwise.nil
omit [Inhabited α] in
theorem ins_comm (hO : SWO lt) (x y : α) (h : lt y x = true) : ∀ S, ins lt y (ins lt x S) = ins lt x (ins lt y S)
  | [] => by simp [ins, h, hO.asymmA h]
  | z :: S => by
    by_cases hzx : lt z x = true
    · by_cases hzy : lt z y = true
      · simp only [ins, hzx, hzy, if_true]; rw [ins_comm hO x y h S]
      · simp only [ins, hzx, hzy, h, if_true, if_false, Bool.false_eq_true]
    · have hzy : ¬ lt z y = true := fun hh => hzx (hO.trans z y x hh h)
      simp only [ins, hzx, hzy, h, hO.asymmA h, if_true, if_false, Bool.false_eq_true]
omit [Inhabited α] in
theorem mrg_ins (hO : SWO lt) (x : α) (S : List α) : ∀ l, mrg lt (ins lt x l) S = ins lt x (mrg lt l S)
  | [] => rfl
  | y :: l => by
    by_cases h : lt y x = true
    · rw [ins, if_pos h]
      show ins lt y (mrg lt (ins lt x l) S) = ins lt x (ins lt y (mrg lt l S))
      rw [mrg_ins hO x S l, ins_comm hO x y h]
    · rw [ins, if_neg h]; rfl
omit [Inhabited α] in
theorem mrg_ssort (hO : SWO lt) (S : List α) : ∀ l, mrg lt (ssort lt l) S = mrg lt l S
  | [] => rfl
  | x :: l => by
    show mrg lt (ins lt x (ssort lt l)) S = ins lt x (mrg lt l S)
    rw [mrg_ins hO, mrg_ssort hO S l]
omit [Inhabited α] in
/-- two sorted halves, merged: the whole sorted -/
theorem ssort_app (hO : SWO lt) (l r : List α) : mrg lt (ssort lt l) (ssort lt r) = ssort lt (l ++ r) := by
  rw [mrg_ssort hO]; unfold ssort; rw [mrg_app]
omit [Inhabited α] in
theorem ins_pass (x : α) (S : List α) : ∀ R : List α, (∀ r ∈ R, lt r x = true) → ins lt x (R ++ S) = R ++ ins lt x S
  | [], _ => rfl
  | r :: R, h => by
    rw [List.cons_append, ins, if_pos (h r List.mem_cons_self), ins_pass x S R (fun y hy => h y (List.mem_cons_of_mem _ hy)), List.cons_append]
omit [Inhabited α] in
theorem ins_stop (x : α) : ∀ S : List α, (∀ s ∈ S, lt s x = false) → ins lt x S = x :: S
  | [], _ => rfl
  | s :: S, h => by rw [ins, if_neg (by rw [h s List.mem_cons_self]; exact Bool.false_ne_true)]
omit [Inhabited α] in
theorem ins_app (x : α) (S : List α) (hS : ∀ s ∈ S, lt s x = false) : ∀ T : List α, ins lt x (T ++ S) = ins lt x T ++ S
  | [] => by rw [List.nil_append, ins_stop x S hS]; rfl
  | t :: T => by
    rw [List.cons_append, ins, ins]
    split
    · rw [ins_app x S hS T, List.cons_append]
    · rfl
omit [Inhabited α] in
theorem mrg_pass (R S : List α) : ∀ L : List α, (∀ l ∈ L, ∀ r ∈ R, lt r l = true) → mrg lt L (R ++ S) = R ++ mrg lt L S
  | [], _ => rfl
  | l :: L, h => by
    show ins lt l (mrg lt L (R ++ S)) = R ++ ins lt l (mrg lt L S)
    rw [mrg_pass R S L (fun y hy => h y (List.mem_cons_of_mem _ hy)), ins_pass l _ R (h l List.mem_cons_self)]
omit [Inhabited α] in
theorem mrg_stop (R S : List α) : ∀ L : List α, (∀ l ∈ L, ∀ s ∈ S, lt s l = false) → mrg lt L (R ++ S) = mrg lt L R ++ S
  | [], _ => rfl
  | l :: L, h => by
    show ins lt l (mrg lt L (R ++ S)) = ins lt l (mrg lt L R) ++ S
    rw [mrg_stop R S L (fun y hy => h y (List.mem_cons_of_mem _ hy)), ins_app l S (h l List.mem_cons_self)]
omit [Inhabited α] in
/-- cut at a place: the halves merged apart -/
theorem mrg_cut (L1 L2 R1 R2 : List α) (hs : ∀ x ∈ L1, ∀ y ∈ L2, lt y x = false) (h1 : ∀ x ∈ L1, ∀ y ∈ R2, lt y x = false) (h2 : ∀ x ∈ L2, ∀ y ∈ R1, lt y x = true) :
    mrg lt (L1 ++ L2) (R1 ++ R2) = mrg lt L1 R1 ++ mrg lt L2 R2 := by
  rw [mrg_app, mrg_pass R1 R2 L2 h2, mrg_stop]
  intro l hl s hs'
  rcases (mem_mrg s L2 R2).1 hs' with h | h
  · exact hs l hl s h
  · exact h1 l hl s h
omit [Inhabited α] in
theorem mrg_nil (l : List α) (h : Srt lt l) : mrg lt l [] = l := by
  induction l with
  | nil => rfl
  | cons x l ih =>
    have h' := List.pairwise_cons.1 h
    show ins lt x (mrg lt l []) = _
    rw [ih h'.2, ins_stop x l h'.1]
/-! ### Arrays as lists -/
theorem get_mid {d : Array α} {X Y : List α} {x : α} (h : d.toList = X ++ x :: Y) : d[X.length]! = x := by
  rw [Array.getElem!_eq_getD, Array.getD_eq_getD_getElem?, ← Array.getElem?_toList, h, List.getElem?_append_right (Nat.le_refl _)]
  simp
theorem get_at {d : Array α} {X L Y : List α} (h : d.toList = X ++ (L ++ Y)) (t : Nat) (ht : t < L.length) : d[X.length + t]! = L[t] := by
  rw [Array.getElem!_eq_getD, Array.getD_eq_getD_getElem?, ← Array.getElem?_toList, h, List.getElem?_append_right (Nat.le_add_right _ _), Nat.add_sub_cancel_left, List.getElem?_append_left ht, List.getElem?_eq_getElem ht]
  rfl
omit [Inhabited α] in
theorem len_of {d : Array α} {l : List α} (h : d.toList = l) : d.size = l.length := by rw [← h]; simp
theorem swp_comm (d : Array α) (i j : Nat) (hi : i < d.size) (hj : j < d.size) : swp d i j = swp d j i := by
  refine Array.ext (by simp [size_swp]) fun t h1 h2 => ?_
  have a := swp_get d hi hj t
  have b := swp_get d hj hi t
  rw [getElem!_pos _ t h1] at a
  rw [getElem!_pos _ t h2] at b
  rw [a, b]
  by_cases e1 : t = j
  · by_cases e2 : t = i
    · subst e1; subst e2; rfl
    · rw [if_pos e1, if_neg e2, if_pos e1]
  · rw [if_neg e1, if_neg e1]
theorem swp_mid {d : Array α} {X M Y : List α} {x y : α} (h : d.toList = X ++ x :: (M ++ y :: Y)) :
    (swp d X.length (X.length + 1 + M.length)).toList = X ++ y :: (M ++ x :: Y) := by
  have e1 : d[X.length]! = x := get_mid h
  have h' : d.toList = (X ++ x :: M) ++ y :: Y := by rw [h]; simp
  have e2 : d[X.length + 1 + M.length]! = y := by
    have := get_mid h'
    rwa [show (X ++ x :: M).length = X.length + 1 + M.length by simp; omega] at this
  unfold swp
  rw [Array.toList_setIfInBounds, Array.toList_setIfInBounds, e1, e2, h, List.set_append_right _ _ (Nat.le_refl _), Nat.sub_self, List.set_cons_zero, List.set_append_right _ _ (by omega),
    show X.length + 1 + M.length - X.length = M.length + 1 by omega, List.set_cons_succ, List.set_append_right _ _ (Nat.le_refl _), Nat.sub_self, List.set_cons_zero]
theorem swp_mid' {d : Array α} {X M Y : List α} {x y : α} (h : d.toList = X ++ x :: (M ++ y :: Y)) :
    (swp d (X.length + 1 + M.length) X.length).toList = X ++ y :: (M ++ x :: Y) := by
  have hs := len_of h
  simp at hs
  rw [swp_comm d _ _ (by omega) (by omega)]; exact swp_mid h
/-- two ranges of one length, swapped -/
theorem swpR_is : ∀ (A B X M Y : List α) (d : Array α) (a b i : Nat), A.length = B.length → d.toList = X ++ (A ++ (M ++ (B ++ Y))) → a + i = X.length → b + i = X.length + A.length + M.length →
    (swpR a b A.length i d).toList = X ++ (B ++ (M ++ (A ++ Y))) := by
  intro A
  induction A with
  | nil =>
    intro B X M Y d a b i hl hd ha hb
    obtain rfl : B = [] := List.length_eq_zero_iff.1 hl.symm
    exact hd
  | cons x A ih =>
    intro B X M Y d a b i hl hd ha hb
    cases B with
    | nil => simp at hl
    | cons y B =>
      simp only [List.length_cons] at hl hb
      have hd' : d.toList = X ++ x :: ((A ++ M) ++ y :: (B ++ Y)) := by rw [hd]; simp
      have e := swp_mid hd'
      rw [show X.length + 1 + (A ++ M).length = b + i by rw [List.length_append]; omega, ← ha] at e
      have := ih B (X ++ [y]) (M ++ [x]) Y (swp d (a + i) (b + i)) a b (i + 1) (by omega) (by rw [e]; simp) (by simp; omega) (by simp; omega)
      rw [List.length_cons, swpR, this]
      simp
/-- the rotation -/
theorem rot_is (X0 Y0 T : List α) (m : Nat) : ∀ (N : Nat) (P U V Q : List α) (d : Array α), U.length + V.length < N → 0 < U.length → 0 < V.length → d.toList = P ++ (U ++ (V ++ Q)) → m = P.length + U.length → P ++ (V ++ (U ++ Q)) = T →
    (rot m U.length V.length d).toList = T := by
  intro N
  induction N with
  | zero => intro P U V Q d h; omega
  | succ N ih =>
    intro P U V Q d hN hu hv hd hm hT
    rw [rot, dif_neg (by omega)]
    by_cases he : U.length = V.length
    · rw [if_pos he]
      have := swpR_is U V P [] Q d (m - U.length) m 0 he (by rw [hd]; simp) (by omega) (by simp; omega)
      rw [this, ← hT]; simp
    · rw [if_neg he]
      by_cases hg : U.length > V.length
      · rw [if_pos hg]
        have hU : ∀ Z, U ++ Z = U.take V.length ++ (U.drop V.length ++ Z) := fun Z => by rw [← List.append_assoc, List.take_append_drop]
        have hl1 : (U.take V.length).length = V.length := by rw [List.length_take]; omega
        have hl2 : (U.drop V.length).length = U.length - V.length := by rw [List.length_drop]
        have := swpR_is (U.take V.length) V P (U.drop V.length) Q d (m - U.length) m 0 hl1 (by rw [hd, hU]) (by omega) (by rw [hl1, hl2]; omega)
        rw [hl1] at this
        have r := ih (P ++ V) (U.drop V.length) (U.take V.length) Q (swpR (m - U.length) m V.length 0 d) (by rw [hl1, hl2]; omega) (by omega) (by omega) (by rw [this]; simp) (by rw [List.length_append]; omega)
          (by rw [← hT, hU Q]; simp)
        rw [hl1, hl2] at r
        exact r
      · rw [if_neg hg]
        have hV : ∀ Z, V ++ Z = V.take (V.length - U.length) ++ (V.drop (V.length - U.length) ++ Z) := fun Z => by rw [← List.append_assoc, List.take_append_drop]
        have hl1 : (V.take (V.length - U.length)).length = V.length - U.length := by rw [List.length_take]; omega
        have hl2 : (V.drop (V.length - U.length)).length = U.length := by rw [List.length_drop]; omega
        have := swpR_is U (V.drop (V.length - U.length)) P (V.take (V.length - U.length)) Q d (m - U.length) (m + V.length - U.length) 0 hl2.symm (by rw [hd, hV]) (by omega) (by rw [hl1]; omega)
        have r := ih P (V.drop (V.length - U.length)) (V.take (V.length - U.length)) (U ++ Q) (swpR (m - U.length) (m + V.length - U.length) U.length 0 d) (by rw [hl1, hl2]; omega) (by omega) (by omega) (by rw [this]) (by rw [hl2]; exact hm)
          (by rw [← hT, hV])
        rw [hl1, hl2] at r
        exact r
theorem upS_is : ∀ (R X Y : List α) (x : α) (d : Array α), d.toList = X ++ x :: (R ++ Y) → (upS R.length X.length d).toList = X ++ (R ++ x :: Y) := by
  intro R
  induction R with
  | nil => intro X Y x d h; exact h
  | cons r R ih =>
    intro X Y x d h
    have e := swp_mid (X := X) (M := []) (Y := R ++ Y) (x := x) (y := r) (d := d) (by rw [h]; simp)
    have := ih (X ++ [r]) Y x (swp d X.length (X.length + 1)) (by rw [show X.length + 1 = X.length + 1 + ([] : List α).length from rfl, e]; simp)
    rw [List.length_cons, upS]
    rw [show (X ++ [r]).length = X.length + 1 by simp] at this
    rw [this]; simp
theorem dnS_is (x : α) (X : List α) : ∀ (n : Nat) (L Y : List α) (d : Array α), L.length = n → d.toList = X ++ (L ++ x :: Y) → (dnS n (X.length + n) d).toList = X ++ x :: (L ++ Y) := by
  intro n
  induction n with
  | zero => intro L Y d hl h; obtain rfl : L = [] := List.length_eq_zero_iff.1 hl; exact h
  | succ n ih =>
    intro L Y d hl h
    obtain ⟨L', l, rfl⟩ : ∃ L' l, L = L' ++ [l] := ⟨L.dropLast, L.getLast (by intro e; rw [e] at hl; simp at hl), (List.dropLast_concat_getLast _).symm⟩
    have hl' : L'.length = n := by simp at hl; omega
    have e := swp_mid' (X := X ++ L') (M := []) (Y := Y) (x := l) (y := x) (d := d) (by rw [h]; simp)
    rw [show (X ++ L').length + 1 + ([] : List α).length = X.length + (n + 1) by simp; omega, show (X ++ L').length = X.length + n by simp; omega] at e
    have := ih L' (l :: Y) (swp d (X.length + (n + 1)) (X.length + n)) hl' (by rw [e]; simp)
    rw [dnS, show X.length + (n + 1) - 1 = X.length + n by omega, this]; simp
/-! ### The search -/
theorem bs_is (p : Nat → Bool) (i0 j0 : Nat) (hmono : ∀ x y, i0 ≤ x → x ≤ y → y < j0 → p y = true → p x = true) : ∀ (N i j : Nat), j - i < N → i0 ≤ i → i ≤ j → j ≤ j0 → (∀ x, i0 ≤ x → x < i → p x = true) → (∀ x, j ≤ x → x < j0 → p x = false) →
    i ≤ bs p i j ∧ bs p i j ≤ j ∧ (∀ x, i0 ≤ x → x < bs p i j → p x = true) ∧ (∀ x, bs p i j ≤ x → x < j0 → p x = false) := by
  intro N
  induction N with
  | zero => intro i j h; omega
  | succ N ih =>
    intro i j hN hi hij hj ha hb
    rw [bs]
    by_cases h : i < j
    · rw [dif_pos h]
      have hm1 : i ≤ (i + j) / 2 := by omega
      have hm2 : (i + j) / 2 < j := by omega
      cases hp : p ((i + j) / 2) with
      | true =>
        rw [if_pos rfl]
        have r := ih ((i + j) / 2 + 1) j (by omega) (by omega) (by omega) hj (fun x hx hx2 => hmono x _ hx (by omega) (by omega) hp) hb
        exact ⟨by omega, r.2.1, r.2.2⟩
      | false =>
        rw [if_neg Bool.false_ne_true]
        have r := ih i ((i + j) / 2) (by omega) (by omega) (by omega) (by omega) ha (fun x hx hx2 => by
          cases hpx : p x with
          | false => rfl
          | true => rw [hmono _ x (by omega) hx hx2 hpx] at hp; cases hp)
        exact ⟨r.1, by omega, r.2.2⟩
    · rw [dif_neg h]
      obtain rfl : i = j := by omega
      exact ⟨Nat.le_refl _, Nat.le_refl _, ha, hb⟩
omit [Inhabited α] in
theorem srt_get {L : List α} (h : Srt lt L) (i j : Nat) (hij : i < j) (hj : j < L.length) : lt L[j] (L[i]'(by omega)) = false := List.pairwise_iff_getElem.1 h i j (by omega) hj hij
omit [Inhabited α] in
theorem srt_get_le (hO : SWO lt) {L : List α} (h : Srt lt L) (i j : Nat) (hij : i ≤ j) (hj : j < L.length) : lt L[j] (L[i]'(by omega)) = false := by
  rcases Nat.lt_or_eq_of_le hij with h1 | h1
  · exact srt_get h i j h1 hj
  · subst h1; exact hO.irrefl _
omit [Inhabited α] in
theorem lt_of_lt_of_nlt (hO : SWO lt) {x y z : α} (h1 : lt x y = true) (h2 : lt z y = false) : lt x z = true := by
  cases h : lt x z with
  | true => rfl
  | false =>
    -- not x < z, not z < y: not x < y
    rw [hO.ntrans x z y h h2] at h1; cases h1
omit [Inhabited α] in
theorem lt_of_nlt_of_lt (hO : SWO lt) {x y z : α} (h1 : lt y x = false) (h2 : lt y z = true) : lt x z = true := by
  cases h : lt x z with
  | true => rfl
  | false => rw [hO.ntrans y x z h1 h] at h2; cases h2
omit [Inhabited α] in
theorem srt_take {l : List α} (h : Srt lt l) (n : Nat) : Srt lt (l.take n) := List.Pairwise.sublist (List.take_sublist n l) h
omit [Inhabited α] in
theorem srt_drop {l : List α} (h : Srt lt l) (n : Nat) : Srt lt (l.drop n) := List.Pairwise.sublist (List.drop_sublist n l) h
omit [Inhabited α] in
theorem mrg_triv (L R : List α) (hL : Srt lt L) (h : L = [] ∨ R = []) : mrg lt L R = L ++ R := by
  rcases h with rfl | rfl
  · rfl
  · rw [mrg_nil L hL, List.append_nil]
theorem symM_is (hO : SWO lt) : ∀ (N : Nat) (X L R Y : List α) (d : Array α), d.toList = X ++ (L ++ (R ++ Y)) → L.length + R.length < N → 0 < L.length → 0 < R.length → Srt lt L → Srt lt R →
    (symM lt N X.length (X.length + L.length) (X.length + L.length + R.length) d).toList = X ++ (mrg lt L R ++ Y) := by
  intro N
  induction N with
  | zero => intro X L R Y d _ h; omega
  | succ N ih =>
    intro X L R Y d hd hN hl hr sL sR
    have gL : ∀ t (ht : t < L.length), d[X.length + t]! = L[t] := fun t ht => get_at hd t ht
    have gR : ∀ t (ht : t < R.length), d[X.length + L.length + t]! = R[t] := fun t ht => by
      have := get_at (X := X ++ L) (L := R) (Y := Y) (d := d) (by rw [hd]; simp) t ht
      rwa [List.length_append] at this
    rw [symM]
    by_cases c1 : X.length + L.length - X.length = 1
    · rw [if_pos c1]
      obtain ⟨x, rfl⟩ : ∃ x, L = [x] := List.length_eq_one_iff.1 (by omega)
      have gx : d[X.length]! = x := gL 0 (by simp)
      rw [gx]
      simp only [List.length_cons, List.length_nil] at gR ⊢
      have B := bs_is (fun h => lt d[h]! x) (X.length + (0 + 1)) (X.length + (0 + 1) + R.length) (fun p q hp hpq hq h => by
        obtain ⟨p, rfl⟩ : ∃ p', p = X.length + (0 + 1) + p' := ⟨p - (X.length + (0 + 1)), by omega⟩
        obtain ⟨q, rfl⟩ : ∃ q', q = X.length + (0 + 1) + q' := ⟨q - (X.length + (0 + 1)), by omega⟩
        rw [gR q (by omega)] at h
        rw [gR p (by omega)]
        exact lt_of_nlt_of_lt hO (srt_get_le hO sR p q (by omega) (by omega)) h) _ (X.length + (0 + 1)) (X.length + (0 + 1) + R.length) (Nat.lt_succ_self _) (Nat.le_refl _) (by omega) (Nat.le_refl _) (fun _ _ _ => by omega) (fun _ _ _ => by omega)
      generalize bs (fun h => lt d[h]! x) (X.length + (0 + 1)) (X.length + (0 + 1) + R.length) = i at B ⊢
      obtain ⟨b1, b2, b3, b4⟩ := B
      obtain ⟨q, rfl⟩ : ∃ q, i = X.length + (0 + 1) + q := ⟨i - (X.length + (0 + 1)), by omega⟩
      have hq : (R.take q).length = q := by rw [List.length_take]; omega
      have u := upS_is (R.take q) X (R.drop q ++ Y) x d (by rw [hd, ← List.append_assoc (R.take q), List.take_append_drop]; rfl)
      rw [hq] at u
      rw [show X.length + (0 + 1) + q - 1 - X.length = q by omega, u]
      have e : mrg lt [x] R = R.take q ++ x :: R.drop q := by
        show ins lt x R = _
        conv => lhs; rw [← List.take_append_drop q R]
        rw [ins_pass, ins_stop]
        · intro s hs
          obtain ⟨j, hj, rfl⟩ := List.mem_iff_getElem.1 hs
          rw [List.length_drop] at hj
          rw [List.getElem_drop]
          have := b4 (X.length + (0 + 1) + (q + j)) (by omega) (by omega)
          rwa [gR (q + j) (by omega)] at this
        · intro s hs
          obtain ⟨j, hj, rfl⟩ := List.mem_iff_getElem.1 hs
          rw [List.getElem_take]
          have := b3 (X.length + (0 + 1) + j) (by omega) (by omega)
          rwa [gR j (by omega)] at this
      rw [e]; simp
    · rw [if_neg c1]
      by_cases c2 : X.length + L.length + R.length - (X.length + L.length) = 1
      · rw [if_pos c2]
        obtain ⟨y, rfl⟩ : ∃ x, R = [x] := List.length_eq_one_iff.1 (by omega)
        have gy : d[X.length + L.length]! = y := gR 0 (by simp)
        rw [gy]
        have B := bs_is (fun h => !lt y d[h]!) X.length (X.length + L.length) (fun p q hp hpq hq h => by
          obtain ⟨p, rfl⟩ : ∃ p', p = X.length + p' := ⟨p - X.length, by omega⟩
          obtain ⟨q, rfl⟩ : ∃ q', q = X.length + q' := ⟨q - X.length, by omega⟩
          rw [gL q (by omega), Bool.not_eq_true'] at h
          rw [gL p (by omega), Bool.not_eq_true']
          exact hO.ntrans y L[q] L[p] h (srt_get_le hO sL p q (by omega) (by omega))) _ X.length (X.length + L.length) (Nat.lt_succ_self _) (Nat.le_refl _) (by omega) (Nat.le_refl _) (fun _ _ _ => by omega) (fun _ _ _ => by omega)
        generalize bs (fun h => !lt y d[h]!) X.length (X.length + L.length) = i at B ⊢
        obtain ⟨b1, b2, b3, b4⟩ := B
        obtain ⟨q, rfl⟩ : ∃ q, i = X.length + q := ⟨i - X.length, by omega⟩
        have hq : (L.drop q).length = L.length - q := by rw [List.length_drop]
        have hq1 : (L.take q).length = q := by rw [List.length_take]; omega
        have u := dnS_is y (X ++ L.take q) (L.length - q) (L.drop q) Y d hq (by rw [hd, List.append_assoc, ← List.append_assoc (L.take q), List.take_append_drop]; rfl)
        rw [show (X ++ L.take q).length + (L.length - q) = X.length + L.length by rw [List.length_append, hq1]; omega] at u
        rw [show X.length + L.length - (X.length + q) = L.length - q by omega, u]
        have e : mrg lt L [y] = L.take q ++ y :: L.drop q := by
          conv => lhs; rw [← List.take_append_drop q L, ← List.append_nil [y]]
          have k1 := mrg_cut (lt := lt) (L.take q) (L.drop q) [] [y] (fun a ha b hb => by
            obtain ⟨j, hj, rfl⟩ := List.mem_iff_getElem.1 ha
            obtain ⟨j', hj', rfl⟩ := List.mem_iff_getElem.1 hb
            rw [List.length_drop] at hj'
            rw [List.getElem_take, List.getElem_drop]
            exact srt_get sL j (q + j') (by omega) (by omega)) (fun a ha b hb => by
            obtain ⟨j, hj, rfl⟩ := List.mem_iff_getElem.1 ha
            obtain rfl := List.mem_singleton.1 hb
            rw [List.getElem_take]
            have := b3 (X.length + j) (by omega) (by omega)
            rwa [gL j (by omega), Bool.not_eq_true'] at this) (fun a ha b hb => by cases hb)
          rw [List.nil_append] at k1
          rw [List.append_nil, k1, mrg_nil _ (srt_take sL q)]
          have k2 := mrg_pass (lt := lt) [y] [] (L.drop q) (fun a ha b hb => by
            obtain ⟨j, hj, rfl⟩ := List.mem_iff_getElem.1 ha
            obtain rfl := List.mem_singleton.1 hb
            rw [List.length_drop] at hj
            rw [List.getElem_drop]
            have := b4 (X.length + (q + j)) (by omega) (by omega)
            rwa [gL (q + j) (by omega), Bool.not_eq_false'] at this)
          rw [List.append_nil] at k2
          rw [k2, mrg_nil _ (srt_drop sL q)]; rfl
        rw [e]; simp
      · rw [if_neg c2]
        -- the search
        obtain ⟨mid, hmid⟩ : ∃ mid, (X.length + (X.length + L.length + R.length)) / 2 = mid := ⟨_, rfl⟩
        have hm1 : X.length < mid := by omega
        have hm2 : mid < X.length + L.length + R.length := by omega
        have hm3 : 2 * mid ≤ X.length + (X.length + L.length + R.length) := by omega
        have hm4 : X.length + (X.length + L.length + R.length) ≤ 2 * mid + 1 := by omega
        have B := bs_is (fun c => !lt d[mid + (X.length + L.length) - 1 - c]! d[c]!) (sm0 X.length (X.length + L.length) (X.length + L.length + R.length)) (smr X.length (X.length + L.length) (X.length + L.length + R.length)) (fun p q hp hpq hq h => by
          unfold sm0 at hp; unfold smr at hq
          rw [hmid] at hp hq
          have hpl : X.length ≤ p := by split at hp <;> omega
          have hqh : q < X.length + L.length := by split at hq <;> omega
          have hqb : mid + (X.length + L.length) - 1 - q ≥ X.length + L.length := by split at hq <;> omega
          have hpb : mid + (X.length + L.length) - 1 - p < X.length + L.length + R.length := by split at hp <;> split at hq <;> omega
          obtain ⟨p', rfl⟩ : ∃ p', p = X.length + p' := ⟨p - X.length, by omega⟩
          obtain ⟨q', rfl⟩ : ∃ q', q = X.length + q' := ⟨q - X.length, by omega⟩
          obtain ⟨p2, e2⟩ : ∃ p2, mid + (X.length + L.length) - 1 - (X.length + p') = X.length + L.length + p2 := ⟨mid + (X.length + L.length) - 1 - (X.length + p') - (X.length + L.length), by omega⟩
          obtain ⟨q2, e3⟩ : ∃ q2, mid + (X.length + L.length) - 1 - (X.length + q') = X.length + L.length + q2 := ⟨mid + (X.length + L.length) - 1 - (X.length + q') - (X.length + L.length), by omega⟩
          simp only [e2, e3] at h ⊢
          rw [gL q' (by omega), gR q2 (by omega), Bool.not_eq_true'] at h
          rw [gL p' (by omega), gR p2 (by omega), Bool.not_eq_true']
          exact hO.ntrans _ _ _ (hO.ntrans _ _ _ (srt_get_le hO sR q2 p2 (by omega) (by omega)) h) (srt_get_le hO sL p' q' (by omega) (by omega))) _
          (sm0 X.length (X.length + L.length) (X.length + L.length + R.length)) (smr X.length (X.length + L.length) (X.length + L.length + R.length)) (Nat.lt_succ_self _) (Nat.le_refl _)
          (by unfold sm0 smr; rw [hmid]; split <;> omega) (Nat.le_refl _) (fun _ _ _ => by omega) (fun _ _ _ => by omega)
        have hS : bs (fun c => !lt d[mid + (X.length + L.length) - 1 - c]! d[c]!) (sm0 X.length (X.length + L.length) (X.length + L.length + R.length)) (smr X.length (X.length + L.length) (X.length + L.length + R.length)) = smS lt X.length (X.length + L.length) (X.length + L.length + R.length) d := by
          unfold smS; rw [hmid]
        rw [hS] at B
        have hE : smE lt X.length (X.length + L.length) (X.length + L.length + R.length) d = mid + (X.length + L.length) - smS lt X.length (X.length + L.length) (X.length + L.length + R.length) d := by unfold smE; rw [hmid]
        unfold smRot
        simp only [hmid]
        rw [hE]
        clear hS hE
        generalize smS lt X.length (X.length + L.length) (X.length + L.length + R.length) d = s at B ⊢
        obtain ⟨b1, b2, b3, b4⟩ := B
        have hs1 : X.length ≤ s := by unfold sm0 at b1; rw [hmid] at b1; split at b1 <;> omega
        have hs2 : s ≤ mid ∧ s ≤ X.length + L.length := by unfold smr at b2; rw [hmid] at b2; split at b2 <;> omega
        have hs3 : mid + (X.length + L.length) - s ≤ X.length + L.length + R.length := by unfold sm0 at b1; rw [hmid] at b1; split at b1 <;> omega
        obtain ⟨u, rfl⟩ : ∃ u, s = X.length + u := ⟨s - X.length, by omega⟩
        obtain ⟨v, hv⟩ : ∃ v, mid = X.length + u + v := ⟨mid - (X.length + u), by omega⟩
        have hE : mid + (X.length + L.length) - (X.length + u) = X.length + L.length + v := by omega
        rw [hE] at hs3 ⊢
        have hu : u ≤ L.length := by omega
        have hvR : v ≤ R.length := by omega
        have lL1 : (L.take u).length = u := by rw [List.length_take]; omega
        have lL2 : (L.drop u).length = L.length - u := by rw [List.length_drop]
        have lR1 : (R.take v).length = v := by rw [List.length_take]; omega
        have lR2 : (R.drop v).length = R.length - v := by rw [List.length_drop]
        have h1 : ∀ x ∈ L.take u, ∀ y ∈ R.drop v, lt y x = false := by
          intro x hx y hy
          obtain ⟨i, hi, rfl⟩ := List.mem_iff_getElem.1 hx
          obtain ⟨j, hj, rfl⟩ := List.mem_iff_getElem.1 hy
          rw [lL1] at hi; rw [lR2] at hj
          rw [List.getElem_take, List.getElem_drop]
          by_cases hs0 : sm0 X.length (X.length + L.length) (X.length + L.length + R.length) < X.length + u
          · have := b3 (X.length + u - 1) (by omega) (by omega)
            simp only [show X.length + u - 1 = X.length + (u - 1) by omega] at this
            rw [show mid + (X.length + L.length) - 1 - (X.length + (u - 1)) = X.length + L.length + v by omega] at this
            rw [gL (u - 1) (by omega), gR v (by omega), Bool.not_eq_true'] at this
            exact hO.ntrans _ _ _ (hO.ntrans _ _ _ (srt_get_le hO sR v (v + j) (by omega) (by omega)) this) (srt_get_le hO sL i (u - 1) (by omega) (by omega))
          · exfalso
            unfold sm0 at hs0; rw [hmid] at hs0
            split at hs0 <;> omega
        have h2 : ∀ x ∈ L.drop u, ∀ y ∈ R.take v, lt y x = true := by
          intro x hx y hy
          obtain ⟨i, hi, rfl⟩ := List.mem_iff_getElem.1 hx
          obtain ⟨j, hj, rfl⟩ := List.mem_iff_getElem.1 hy
          rw [lL2] at hi; rw [lR1] at hj
          rw [List.getElem_take, List.getElem_drop]
          by_cases hs0 : X.length + u < smr X.length (X.length + L.length) (X.length + L.length + R.length)
          · have := b4 (X.length + u) (by omega) hs0
            simp only [show mid + (X.length + L.length) - 1 - (X.length + u) = X.length + L.length + (v - 1) by omega] at this
            rw [gL u (by omega), gR (v - 1) (by omega), Bool.not_eq_false'] at this
            exact lt_of_lt_of_nlt hO (lt_of_nlt_of_lt hO (srt_get_le hO sR j (v - 1) (by omega) (by omega)) this) (srt_get_le hO sL u (u + i) (by omega) (by omega))
          · exfalso
            unfold smr at hs0; rw [hmid] at hs0
            split at hs0 <;> omega
        have hcut := mrg_cut (lt := lt) (L.take u) (L.drop u) (R.take v) (R.drop v) (fun a ha b hb => by
            obtain ⟨j, hj, rfl⟩ := List.mem_iff_getElem.1 ha
            obtain ⟨j', hj', rfl⟩ := List.mem_iff_getElem.1 hb
            rw [lL1] at hj; rw [lL2] at hj'
            rw [List.getElem_take, List.getElem_drop]
            exact srt_get sL j (u + j') (by omega) (by omega)) h1 h2
        rw [List.take_append_drop, List.take_append_drop] at hcut
        have e1 : (if X.length + u < X.length + L.length ∧ X.length + L.length < X.length + L.length + v then rot (X.length + L.length) (X.length + L.length - (X.length + u)) (X.length + L.length + v - (X.length + L.length)) d else d).toList = X ++ (L.take u ++ (R.take v ++ (L.drop u ++ (R.drop v ++ Y)))) := by
          have hd' : d.toList = (X ++ L.take u) ++ (L.drop u ++ (R.take v ++ (R.drop v ++ Y))) := by
            rw [hd, List.append_assoc, ← List.append_assoc (L.take u), List.take_append_drop, ← List.append_assoc (R.take v), List.take_append_drop]
          split
          · have := rot_is (X ++ L.take u) Y ((X ++ L.take u) ++ (R.take v ++ (L.drop u ++ (R.drop v ++ Y)))) (X.length + L.length) _ (X ++ L.take u) (L.drop u) (R.take v) (R.drop v ++ Y) d (Nat.lt_succ_self _) (by omega) (by omega) hd' (by rw [List.length_append]; omega) rfl
            rw [lL2, lR1] at this
            rw [show X.length + L.length - (X.length + u) = L.length - u by omega, show X.length + L.length + v - (X.length + L.length) = v by omega, this, List.append_assoc]
          · rw [hd']
            rcases (by omega : L.length - u = 0 ∨ v = 0) with hz | hz
            · rw [List.length_eq_zero_iff.1 (lL2.trans hz)]; simp
            · rw [List.length_eq_zero_iff.1 (lR1.trans hz)]; simp
        generalize (if X.length + u < X.length + L.length ∧ X.length + L.length < X.length + L.length + v then rot (X.length + L.length) (X.length + L.length - (X.length + u)) (X.length + L.length + v - (X.length + L.length)) d else d) = d1 at e1 ⊢
        have e2 : (if X.length < X.length + u ∧ X.length + u < mid then symM lt N X.length (X.length + u) mid d1 else d1).toList = X ++ (mrg lt (L.take u) (R.take v) ++ (L.drop u ++ (R.drop v ++ Y))) := by
          split
          · have := ih X (L.take u) (R.take v) (L.drop u ++ (R.drop v ++ Y)) d1 e1 (by omega) (by omega) (by omega) (srt_take sL u) (srt_take sR v)
            rw [lL1, lR1, ← hv] at this
            exact this
          · rw [e1, mrg_triv _ _ (srt_take sL u)]
            · simp
            · rcases (by omega : u = 0 ∨ v = 0) with hz | hz
              · exact Or.inl (List.length_eq_zero_iff.1 (lL1.trans hz))
              · exact Or.inr (List.length_eq_zero_iff.1 (lR1.trans hz))
        generalize (if X.length < X.length + u ∧ X.length + u < mid then symM lt N X.length (X.length + u) mid d1 else d1) = d2 at e2 ⊢
        have lM : (X ++ mrg lt (L.take u) (R.take v)).length = mid := by rw [List.length_append, mrg_len, lL1, lR1]; omega
        rw [hcut]
        split
        · have := ih (X ++ mrg lt (L.take u) (R.take v)) (L.drop u) (R.drop v) Y d2 (by rw [e2]; simp) (by omega) (by omega) (by omega) (srt_drop sL u) (srt_drop sR v)
          rw [lM, lL2, lR2, show mid + (L.length - u) = X.length + L.length + v by omega, show X.length + L.length + v + (R.length - v) = X.length + L.length + R.length by omega] at this
          rw [this]; simp
        · rw [e2, mrg_triv (L.drop u) (R.drop v) (srt_drop sL u)]
          · simp
          · rcases (by omega : L.length - u = 0 ∨ R.length - v = 0) with hz | hz
            · exact Or.inl (List.length_eq_zero_iff.1 (lL2.trans hz))
            · exact Or.inr (List.length_eq_zero_iff.1 (lR2.trans hz))
/-! ### The blocks -/
theorem insInner_is (hO : SWO lt) (X : List α) (x : α) : ∀ (n : Nat) (S Y : List α) (d : Array α), S.length = n → Srt lt S → d.toList = X ++ (S ++ x :: Y) →
    (insInner lt X.length (X.length + n) d).toList = X ++ (mrg lt S [x] ++ Y) := by
  intro n
  induction n with
  | zero =>
    intro S Y d hl _ hd
    obtain rfl : S = [] := List.length_eq_zero_iff.1 hl
    rw [Nat.add_zero, insInner_stop lt _ _ _ (Or.inl (Nat.le_refl _))]
    exact hd
  | succ n ih =>
    intro S Y d hl hs hd
    obtain ⟨S', s, rfl⟩ : ∃ S' s, S = S' ++ [s] := ⟨S.dropLast, S.getLast (by intro e; rw [e] at hl; simp at hl), (List.dropLast_concat_getLast _).symm⟩
    have hl' : S'.length = n := by simp at hl; omega
    have hp := List.pairwise_append.1 hs
    have hsl : ∀ l ∈ S', lt s l = false := fun l h => hp.2.2 l h s List.mem_cons_self
    have g1 : d[X.length + (n + 1)]! = x := by
      have := get_mid (X := X ++ (S' ++ [s])) (Y := Y) (x := x) (d := d) (by rw [hd]; simp)
      rwa [show (X ++ (S' ++ [s])).length = X.length + (n + 1) by simp; omega] at this
    have g0 : d[X.length + (n + 1) - 1]! = s := by
      have := get_mid (X := X ++ S') (Y := x :: Y) (x := s) (d := d) (by rw [hd]; simp)
      rwa [show (X ++ S').length = X.length + (n + 1) - 1 by simp; omega] at this
    cases hlt : lt x s with
    | true =>
      rw [insInner_go lt _ _ _ (by omega) (by rw [g1, g0]; exact hlt)]
      have e := swp_mid' (X := X ++ S') (M := []) (Y := Y) (x := s) (y := x) (d := d) (by rw [hd]; simp)
      rw [show (X ++ S').length + 1 + ([] : List α).length = X.length + (n + 1) by simp; omega, show (X ++ S').length = X.length + (n + 1) - 1 by simp; omega] at e
      have := ih S' (s :: Y) (swp d (X.length + (n + 1)) (X.length + (n + 1) - 1)) hl' hp.1 (by rw [e]; simp)
      rw [show X.length + (n + 1) - 1 = X.length + n by omega] at this ⊢
      rw [this, mrg_app, show mrg lt [s] [x] = [x] ++ [s] by simp [mrg, ins, hlt], mrg_stop [x] [s] S' (fun l h z hz => by obtain rfl := List.mem_singleton.1 hz; exact hsl l h)]
      simp
    | false =>
      rw [insInner_stop lt _ _ _ (Or.inr (by rw [g1, g0]; exact hlt)), hd]
      have := mrg_stop (lt := lt) [] [x] (S' ++ [s]) (fun l h z hz => by
        obtain rfl := List.mem_singleton.1 hz
        rcases List.mem_append.1 h with h | h
        · exact hO.ntrans _ _ _ hlt (hsl l h)
        · obtain rfl := List.mem_singleton.1 h; exact hlt)
      rw [List.nil_append, mrg_nil _ hs] at this
      rw [this]; simp
theorem insOuter_is (hO : SWO lt) (X : List α) (b : Nat) : ∀ (T S0 Y : List α) (d : Array α), d.toList = X ++ (ssort lt S0 ++ (T ++ Y)) → X.length + S0.length + T.length = b →
    (insOuter lt X.length b (X.length + S0.length) d).toList = X ++ (ssort lt (S0 ++ T) ++ Y) := by
  intro T
  induction T with
  | nil => intro S0 Y d hd hb; simp at hb; rw [insOuter_stop lt _ _ _ _ (by omega), List.append_nil]; exact hd
  | cons x T ih =>
    intro S0 Y d hd hb
    simp at hb
    rw [insOuter_go lt _ _ _ _ (by omega)]
    have hls : (ssort lt S0).length = S0.length := (ssort_perm S0).length_eq
    have e := insInner_is hO X x S0.length (ssort lt S0) (T ++ Y) d hls (srt_ssort hO S0) hd
    rw [show [x] = ssort lt [x] from rfl, ssort_app hO] at e
    have := ih (S0 ++ [x]) Y _ e (by simp; omega)
    rw [show X.length + (S0 ++ [x]).length = X.length + S0.length + 1 by simp; omega] at this
    rw [this]; simp
theorem insertionSort_is (hO : SWO lt) (X S Y : List α) (d : Array α) (b : Nat) (hd : d.toList = X ++ (S ++ Y)) (hb : X.length + S.length = b) : (insertionSort lt d X.length b).toList = X ++ (ssort lt S ++ Y) := by
  unfold insertionSort
  cases S with
  | nil => simp at hb; rw [insOuter_stop lt _ _ _ _ (by omega)]; exact hd
  | cons x S => exact insOuter_is hO X b S [x] Y d hd (by simp at hb ⊢; omega)
section
variable (lt)
/-- a list, each run of s sorted -/
def chs (s : Nat) (l : List α) : List α := if h : 0 < s ∧ s < l.length then ssort lt (l.take s) ++ chs s (l.drop s) else ssort lt l
termination_by l.length
decreasing_by rw [List.length_drop]; omega
end
omit [Inhabited α] in
theorem chs_le (s : Nat) (l : List α) (h : l.length ≤ s) : chs lt s l = ssort lt l := by rw [chs, dif_neg (by omega)]
omit [Inhabited α] in
theorem chs_step (s : Nat) (l : List α) (h0 : 0 < s) (h : s ≤ l.length) : chs lt s l = ssort lt (l.take s) ++ chs lt s (l.drop s) := by
  rw [chs]
  by_cases h1 : s < l.length
  · rw [dif_pos ⟨h0, h1⟩]
  · obtain rfl : s = l.length := by omega
    rw [dif_neg (by omega), List.take_length, List.drop_length, chs_le _ _ (by simp)]; simp [ssort, mrg]
theorem insB_is (hO : SWO lt) : ∀ (N : Nat) (X T : List α) (d : Array α), T.length < N → d.toList = X ++ T → (insB lt (X.length + T.length) X.length d).toList = X ++ chs lt 20 T := by
  intro N
  induction N with
  | zero => intro X T d h; omega
  | succ N ih =>
    intro X T d hN hd
    rw [insB]
    by_cases h : X.length + 20 ≤ X.length + T.length
    · rw [if_pos h]
      have hl : (T.take 20).length = 20 := by rw [List.length_take]; omega
      have e := insertionSort_is hO X (T.take 20) (T.drop 20) d (X.length + 20) (by rw [List.take_append_drop]; exact hd) (by rw [hl])
      have hls : (ssort lt (T.take 20)).length = 20 := (ssort_perm _).length_eq.trans hl
      have := ih (X ++ ssort lt (T.take 20)) (T.drop 20) _ (by rw [List.length_drop]; omega) (by rw [e]; simp)
      rw [List.length_append, hls, List.length_drop, show X.length + 20 + (T.length - 20) = X.length + T.length by omega] at this
      rw [this, chs_step 20 T (by omega) (by omega)]; simp
    · rw [if_neg h]
      have := insertionSort_is hO X T [] d (X.length + T.length) (by simpa using hd) rfl
      rw [this, chs_le 20 T (by omega)]; simp
omit [Inhabited α] in
theorem len_ssort (l : List α) : (ssort lt l).length = l.length := (ssort_perm l).length_eq
theorem mergeB_is (hO : SWO lt) (s : Nat) (h0 : 0 < s) : ∀ (N : Nat) (X T : List α) (d : Array α), T.length < N → d.toList = X ++ chs lt s T → (mergeB lt s (X.length + T.length) X.length d).toList = X ++ chs lt (s * 2) T := by
  intro N
  induction N with
  | zero => intro X T d h; omega
  | succ N ih =>
    intro X T d hN hd
    rw [mergeB]
    by_cases h : X.length + 2 * s ≤ X.length + T.length
    · rw [dif_pos ⟨h0, h⟩]
      have l1 : (T.take s).length = s := by rw [List.length_take]; omega
      have l2 : ((T.drop s).take s).length = s := by rw [List.length_take, List.length_drop]; omega
      rw [chs_step s T h0 (by omega), chs_step s (T.drop s) h0 (by rw [List.length_drop]; omega)] at hd
      have e := symM_is hO (2 * s + 1) X (ssort lt (T.take s)) (ssort lt ((T.drop s).take s)) (chs lt s ((T.drop s).drop s)) d (by rw [hd]; try simp) (by rw [len_ssort, len_ssort, l1, l2]; omega) (by rw [len_ssort, l1]; exact h0) (by rw [len_ssort, l2]; exact h0) (srt_ssort hO _) (srt_ssort hO _)
      rw [len_ssort, len_ssort, l1, l2, ssort_app hO, show X.length + s + s = X.length + 2 * s by omega] at e
      have ht : T.take s ++ (T.drop s).take s = T.take (s * 2) := by
        rw [show s * 2 = s + s by omega, List.take_add]
      have hdd : (T.drop s).drop s = T.drop (s * 2) := by rw [List.drop_drop]; congr 1; omega
      rw [ht, hdd] at e
      have l3 : (T.take (s * 2)).length = s * 2 := by rw [List.length_take]; omega
      have := ih (X ++ ssort lt (T.take (s * 2))) (T.drop (s * 2)) _ (by rw [List.length_drop]; omega) (by rw [e]; simp)
      rw [List.length_append, len_ssort, l3, List.length_drop, show X.length + s * 2 = X.length + 2 * s by omega, show X.length + 2 * s + (T.length - s * 2) = X.length + T.length by omega] at this
      rw [this, chs_step (s * 2) T (by omega) (by omega)]; simp
    · rw [dif_neg (by omega)]
      by_cases h2 : X.length + s < X.length + T.length
      · rw [if_pos h2]
        have l1 : (T.take s).length = s := by rw [List.length_take]; omega
        have l2 : (T.drop s).length = T.length - s := by rw [List.length_drop]
        rw [chs_step s T h0 (by omega), chs_le s (T.drop s) (by omega)] at hd
        have e := symM_is hO (X.length + T.length - X.length + 1) X (ssort lt (T.take s)) (ssort lt (T.drop s)) [] d (by rw [hd]; simp) (by rw [len_ssort, len_ssort, l1, l2]; omega) (by rw [len_ssort, l1]; exact h0) (by rw [len_ssort, l2]; omega) (srt_ssort hO _) (srt_ssort hO _)
        rw [len_ssort, len_ssort, l1, l2, ssort_app hO, List.take_append_drop, show X.length + s + (T.length - s) = X.length + T.length by omega] at e
        rw [e, chs_le (s * 2) T (by omega)]; simp
      · rw [if_neg h2, hd, chs_le s T (by omega), chs_le (s * 2) T (by omega)]
theorem dbl_is (hO : SWO lt) (T : List α) : ∀ (N s : Nat) (d : Array α), T.length - s < N → 0 < s → d.toList = chs lt s T → (dbl lt s T.length d).toList = ssort lt T := by
  intro N
  induction N with
  | zero => intro s d h; omega
  | succ N ih =>
    intro s d hN h0 hd
    rw [dbl]
    by_cases h : s < T.length
    · rw [dif_pos ⟨h0, h⟩]
      have := mergeB_is hO s h0 _ [] T d (Nat.lt_succ_self _) hd
      rw [List.nil_append, List.length_nil, Nat.zero_add] at this
      exact ih (s * 2) _ (by omega) (by omega) this
    · rw [dif_neg (by omega), hd, chs_le s T (by omega)]
/-- the library's stable sort leaves the stable sort of what was there -/
theorem stab_is (hO : SWO lt) (d : Array α) : (stab lt d.size d).toList = ssort lt d.toList := by
  unfold stab
  have := insB_is hO _ [] d.toList d (Nat.lt_succ_self _) rfl
  rw [List.nil_append, List.length_nil, Nat.zero_add, Array.length_toList] at this
  have := dbl_is hO d.toList _ 20 _ (Nat.lt_succ_self _) (by omega) this
  rwa [Array.length_toList] at this
/-! ### Sizes of the greater ones -/
theorem size_smRot (a m b : Nat) (d : Array α) : (smRot lt a m b d).size = d.size := by
  unfold smRot
  split
  · exact size_rot m _ _ _ d (Nat.lt_succ_self _)
  · rfl
theorem size_symM : ∀ (N a m b : Nat) (d : Array α), (symM lt N a m b d).size = d.size := by
  intro N
  induction N with
  | zero => intros; rfl
  | succ N ih =>
    intro a m b d
    rw [symM]
    split
    · exact size_upS _ _ _
    · split
      · exact size_dnS _ _ _
      · dsimp only
        split
        · rw [ih]; split
          · rw [ih, size_smRot]
          · exact size_smRot _ _ _ _
        · split
          · rw [ih, size_smRot]
          · exact size_smRot _ _ _ _
theorem size_mergeB (s n : Nat) : ∀ (N a : Nat) (d : Array α), n - a < N → (mergeB lt s n a d).size = d.size := by
  intro N
  induction N with
  | zero => intro a d h; omega
  | succ N ih =>
    intro a d hN
    rw [mergeB]
    split
    · rw [ih _ _ (by omega), size_symM]
    · split
      · exact size_symM _ _ _ _ _
      · rfl
end Go.Proofs.Ytcbgcmaioicdbaa.Stab
