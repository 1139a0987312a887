/- MgB MgD MgE -/
import Derived.Test.YthlelhndmnkmjaaMgA
import Derived.Test.YthlelhndmnkmjaaWArr
import Derived.Sort.LotB
section
namespace Go.Proofs.Ythlelhndmnkmjaa.Pr
open Go.RowKit Go.Proofs.Ythlelhndmnkmjaa.Brid Go.Proofs.YthlelhndmnkmjaaW.PrintWords Go.Proofs.YthlelhndmnkmjaaW.PrintLast Go.Proofs.YthlelhndmnkmjaaW.PrintMore
set_option linter.unusedVariables false
set_option linter.unusedSimpArgs false
set_option maxHeartbeats 4000000
set_option maxRecDepth 100000
theorem method_val (p : Nat) (w : World) (A : Option Addr) (n c : Nat) (nm : String) (sg : TypeId) (f : FuncId) (hc : w.cell? ⟨p, 0, none⟩ = some (.slice A n c))
    (hm : ((Try.prog.info? 66).get!.methods.find? (·.name == nm)) = some { name := nm, sig := sg, path := #[], func := some (f, false) }) : (method 237 66 (.pointer (some ⟨p, 0, none⟩)) nm).run Try.prog w = .ok (f, .slice A n c) w := by
  unfold method
  have ht : ∀ w, (typeInfo 66).run Try.prog w = .ok (Try.prog.info? 66).get! w := fun w => by kernel_rfl
  have hu : ∀ w, (underlying 66).run Try.prog w = .ok (.pointer 68) w := fun w => by kernel_rfl
  have hl : (loadVar 68 ⟨p, 0, none⟩).run Try.prog w = .ok (.slice A n c) w := by go_simp
  have hn : ∀ (s : String) (w : World), (Builtin.ssaWrapNilChk_ #[66] 66 #[.pointer (some ⟨p, 0, none⟩), strVal "", strVal s]).run Try.prog w = .ok (.pointer (some ⟨p, 0, none⟩)) w := fun s w => by kernel_rfl
  simp [ht, hm, hu, follow, receiverAt, Place.get, hn, hl, asAddr]
theorem method_Len (p : Nat) (w : World) (A : Option Addr) (n c : Nat) (hc : w.cell? ⟨p, 0, none⟩ = some (.slice A n c)) : (method 237 66 (.pointer (some ⟨p, 0, none⟩)) "Len").run Try.prog w = .ok (39, .slice A n c) w := method_val p w A n c "Len" 72 39 hc (by kernel_rfl)
theorem method_Less (p : Nat) (w : World) (A : Option Addr) (n c : Nat) (hc : w.cell? ⟨p, 0, none⟩ = some (.slice A n c)) : (method 237 66 (.pointer (some ⟨p, 0, none⟩)) "Less").run Try.prog w = .ok (103, .slice A n c) w := method_val p w A n c "Less" 116 103 hc (by kernel_rfl)
theorem method_Swap (p : Nat) (w : World) (A : Option Addr) (n c : Nat) (hc : w.cell? ⟨p, 0, none⟩ = some (.slice A n c)) : (method 237 66 (.pointer (some ⟨p, 0, none⟩)) "Swap").run Try.prog w = .ok (106, .slice A n c) w := method_val p w A n c "Swap" 99 106 hc (by kernel_rfl)
theorem method_Pop (p : Nat) (w : World) : (method 237 66 (.pointer (some ⟨p, 0, none⟩)) "Pop").run Try.prog w = .ok (104, .pointer (some ⟨p, 0, none⟩)) w := by kernel_rfl
theorem method_Push (p : Nat) (w : World) : (method 237 66 (.pointer (some ⟨p, 0, none⟩)) "Push").run Try.prog w = .ok (105, .pointer (some ⟨p, 0, none⟩)) w := by kernel_rfl
/-- an element as it stood in w0, wherever it is told -/
def oldK {α : Type} (d : Kd α) (w0 : World) : Kd α where
  sz := d.sz
  E := []
  K := fun _ x cs => d.K w0 x cs
  M := fun _ _ _ x cs => d.K w0 x cs
  K_len := fun h => d.K_len h
  K_one := fun h => d.K_one h
  K_below := fun _ h => h
  K_of_M := fun h => h
  M_mono := fun _ h => h
  M_bound := fun h => h
  M_move := fun _ h => h
  M_lower := fun _ h => h
/-- read now -/
theorem oldK_C {α : Type} {d : Kd α} {w0 w : World} {A : Option Addr} {n : Nat} {xs : List α} (h : (oldK d w0).C w A n xs) (hb : Below w0.heap.size w0 w) : d.C w A n xs :=
  ⟨h.1, h.2.1, fun hn => by
    obtain ⟨ad, e, hr⟩ := h.2.2 hn
    exact ⟨ad, e, fun j p hj => by
      obtain ⟨c, hc, hk, hcell⟩ := hr j p hj
      exact ⟨c, hc, d.K_below hb hk, hcell⟩⟩⟩
theorem set_two {α : Type} (l : List α) (k : Nat) (a b : α) (h : k + 1 < l.length) : (l.set k a).set (k + 1) b = l.take k ++ [a, b] ++ l.drop (k + 2) := by
  apply List.ext_getElem?
  intro i
  rw [List.append_assoc]
  rcases Nat.lt_or_ge i k with h1 | h1
  · rw [List.getElem?_set_ne (by omega), List.getElem?_set_ne (by omega), List.getElem?_append_left (by rw [List.length_take]; omega), List.getElem?_take_of_lt h1]
  · rw [List.getElem?_append_right (by rw [List.length_take]; omega), List.length_take, Nat.min_eq_left (by omega)]
    rcases Nat.lt_or_ge i (k + 2) with h2 | h2
    · have : i = k ∨ i = k + 1 := by omega
      rcases this with rfl | rfl
      · rw [List.getElem?_set_ne (by omega), List.getElem?_set_self (by omega)]; simp
      · rw [List.getElem?_set_self (by rw [List.length_set]; omega)]; simp
    · rw [List.getElem?_set_ne (by omega), List.getElem?_set_ne (by omega), List.getElem?_append_right (by simp; omega), List.getElem?_drop]
      congr 1
      simp; omega
theorem oldR_put {α : Type} {d : Kd α} {w0 w : World} {e b g n c i : Nat} {ok : Nat → Prop} {l : List α} {x : α} {u0 u1 : Value} (hsz : d.sz = 2) (h : Kd.R (oldK d w0) e w b ok (.slice (some ⟨g, 0, none⟩) n c) l) (hi : i < l.length) (hK : d.K w0 x [u0, u1]) :
    Kd.R (oldK d w0) e ((w.setCell ⟨g, i * 2, none⟩ u0).setCell ⟨g, i * 2 + 1, none⟩ u1) b ok (.slice (some ⟨g, 0, none⟩) n c) (l.set i x) ∧ w.grownBy ((w.setCell ⟨g, i * 2, none⟩ u0).setCell ⟨g, i * 2 + 1, none⟩ u1) (some g) := by
  obtain ⟨h0, inner, ho, hr⟩ := h
  have hone : u0.oneCell' = true ∧ u1.oneCell' = true := ⟨d.K_one hK _ (by simp), d.K_one hK _ (by simp)⟩
  have hil : inner.length = l.length * 2 := by rw [hr.1]; show l.length * d.sz = _; rw [hsz]
  have hnl : n = l.length := by
    rcases ho.2 with ⟨h1, _⟩ | ⟨_, _, _, h1, _⟩
    · cases h1
    · injection h1
  subst hnl
  obtain ⟨ho1, hg1⟩ := World.ownsRow.stored ho (i * 2) u0
  obtain ⟨ho2, hg2⟩ := World.ownsRow.stored ho1 (i * 2 + 1) u1
  refine ⟨⟨h0, (inner.set (i * 2) u0).set (i * 2 + 1) u1, by rw [List.length_set]; exact ho2, ?_⟩, hg1.trans hg2⟩
  rw [set_two _ _ _ _ (by omega)]
  have hr' : Reps (fun x cs => d.K w0 x cs) 2 l inner := by rw [← hsz]; exact hr
  have := Kd.reps_set hr' hi (x := x) (seg := [u0, u1]) hK rfl
  show Reps (fun x cs => d.K w0 x cs) d.sz _ _
  rw [hsz]
  exact this
instance s70_inhabited : Inhabited S70 := ⟨z70⟩
/-- the head's key -/
def hkT (x : S70) : S37 := keyT (rd_T41 x.f0 0)
/-- ahead in the heap: the lesser key; of one key the newer -/
def lessH (a b : S70) : Bool := lessT (hkT a) (hkT b) || (eqK (hkT a) (hkT b) && decide (a.f1 < b.f1))
/-- what the heap's elements must be for Less to read -/
def GoodH (x : S70) : Prop := 0 < x.f0.length ∧ 0 < (rd_T41 x.f0 0).f1.length
theorem rdH_at (l : List S70) (n : Nat) (h : n < l.length) : rd_T70 l (n : Int) = l[n] := by
  simp [rd_T70, List.getD_eq_getElem?_getD, List.getElem?_eq_getElem h]
/-- what an element's head shows in memory -/
structure HeadAt (w : World) (ad : Addr) (x : S70) : Prop where
  cells : ∃ (A0 : Addr) (c0 : Nat) (A1 : Addr) (c1 : Nat), w.cell? ad = some (.slice (some A0) x.f0.length c0) ∧ w.cell? ⟨A0.block, A0.off + 1, none⟩ = some (.slice (some A1) (rd_T41 x.f0 0).f1.length c1) ∧
    w.cell? A1 = some (.bool (hkT x).f0) ∧ w.cell? ⟨A1.block, A1.off + 1, none⟩ = some (.int .i64 (hkT x).f1) ∧ w.cell? ⟨A1.block, A1.off + 2, none⟩ = some (.string (hkT x).f2)
  age : w.cell? ⟨ad.block, ad.off + 1, none⟩ = some (.int .i64 x.f1)
theorem headAt {w : World} {A : Option Addr} {n : Nat} {l : List S70} (h : Kd.C k70 w A n l) {i : Nat} (hi : i < n) (hl : i < l.length) (hg : GoodH l[i]) : ∃ ad : Addr, A = some ad ∧ HeadAt w (ad.add (i * 2)) l[i] := by
  obtain ⟨ad, A0, c0, eA, x0, x1, hc, hC⟩ := at_T70 h (i : Int) (by omega) (by omega)
  rw [rdH_at l i hl] at x0 x1 hc hC
  simp only [Int.toNat_natCast] at x0 x1
  obtain ⟨aq, Ar, cr, eQ, y0, y1, hcr, hCr⟩ := at_T41 hC (0 : Int) (by omega) (by have := hg.1; omega)
  subst eQ
  obtain ⟨ak, eK, z0, z1, z2⟩ := at_T37 hCr (0 : Int) (by omega) (by have := hg.2; omega)
  subst eK
  refine ⟨ad, eA, ⟨⟨aq, c0, ak, cr, x0, ?_, ?_, ?_, ?_⟩, x1⟩⟩
  · simpa [Addr.add] using y1
  · simpa [Addr.add, hkT, keyT] using z0
  · simpa [Addr.add, hkT, keyT] using z1
  · simpa [Addr.add, hkT, keyT] using z2
theorem lessH_lt {a b : S70} (h : Thy.cmpV (hkT a).f0 (hkT a).f1 (hkT a).f2 (hkT b).f0 (hkT b).f1 (hkT b).f2 < 0) : lessH a b = true := by
  have : lessT (hkT a) (hkT b) = true := Thy.cmpV_lt.1 h
  simp [lessH, this]
theorem lessH_eq {a b : S70} (h : Thy.cmpV (hkT a).f0 (hkT a).f1 (hkT a).f2 (hkT b).f0 (hkT b).f1 (hkT b).f2 = 0) : lessH a b = decide (a.f1 < b.f1) := by
  have h1 := (cmp_eqK _ _).1 h
  have : lessT (hkT a) (hkT b) = false := (eqK_iff.1 h1).1
  simp [lessH, this, h1]
theorem lessH_gt {a b : S70} (h : ¬ Thy.cmpV (hkT a).f0 (hkT a).f1 (hkT a).f2 (hkT b).f0 (hkT b).f1 (hkT b).f2 < 0) (h0 : ¬ Thy.cmpV (hkT a).f0 (hkT a).f1 (hkT a).f2 (hkT b).f0 (hkT b).f1 (hkT b).f2 = 0) : lessH a b = false := by
  have h1 : eqK (hkT a) (hkT b) = false := by
    cases hx : eqK (hkT a) (hkT b) with
    | false => rfl
    | true => exact absurd ((cmp_eqK _ _).2 hx) h0
  have : lessT (hkT a) (hkT b) = false := by
    cases hx : lessT (hkT a) (hkT b) with
    | false => rfl
    | true => exact absurd (Thy.cmpV_lt.2 hx) h
  simp [lessH, this, h1]
theorem Less_T (A : Option Addr) (c : Nat) (l : List S70) (i j : Nat) (w : World) (h : Kd.C k70 w A l.length l) (hi : i < l.length) (hj : j < l.length) (hgi : GoodH l[i]) (hgj : GoodH l[j]) (hn : l.length ≤ 4611686018427387904) :
    Calls Try.prog 103 #[.slice A l.length c, .int .i64 i, .int .i64 j] w fun e w' => e = .returned (.bool (lessH l[i] l[j])) ∧ Below w.heap.size w w' := by
  obtain ⟨ad, eA, ⟨⟨Ai, ci, Ki, di, a0, a1, a2, a3, a4⟩, a5⟩⟩ := headAt h hi hi hgi
  subst eA
  obtain ⟨ad', eA, ⟨⟨Aj, cj, Kj, dj, b0, b1, b2, b3, b4⟩, b5⟩⟩ := headAt h hj hj hgj
  cases eA
  have gi1 : (0 : Int) < (l[i].f0.length : Int) := by have := hgi.1; omega
  have gi2 : (0 : Int) < ((rd_T41 l[i].f0 0).f1.length : Int) := by have := hgi.2; omega
  have gj1 : (0 : Int) < (l[j].f0.length : Int) := by have := hgj.1; omega
  have gj2 : (0 : Int) < ((rd_T41 l[j].f0 0).f1.length : Int) := by have := hgj.2; omega
  have lt := lessH_lt (a := l[i]) (b := l[j])
  have eq := lessH_eq (a := l[i]) (b := l[j])
  have gt := lessH_gt (a := l[i]) (b := l[j])
  have hcmp := fun V => cmp_T (hkT l[i]) (hkT l[j]) V
  generalize lessH l[i] l[j] = r at *
  generalize (rd_T41 l[i].f0 0).f1.length = ri at *
  generalize (rd_T41 l[j].f0 0).f1.length = rj at *
  generalize l[i].f0.length = li at *
  generalize l[j].f0.length = lj at *
  generalize hkT l[i] = ki at *
  generalize hkT l[j] = kj at *
  generalize l[i].f1 = ai at *
  generalize l[j].f1 = aj at *
  generalize Thy.cmpV ki.f0 ki.f1 ki.f2 kj.f0 kj.f1 kj.f2 = cv at *
  have LT := Aside0.mk lt
  have EQ := Aside0.mk eq
  have GT := Aside0.mk gt
  have P0 : ∀ s : SomeW w, s.W.cell? (ad.add (i * 2)) = some (.slice (some Ai) li ci) := fun s => cell_some a0 s
  have P1 : ∀ s : SomeW w, s.W.cell? ⟨Ai.block, Ai.off + 1, none⟩ = some (.slice (some Ki) ri di) := fun s => cell_some a1 s
  have P2 : ∀ s : SomeW w, s.W.cell? Ki = some (.bool ki.f0) := fun s => cell_some a2 s
  have P3 : ∀ s : SomeW w, s.W.cell? ⟨Ki.block, Ki.off + 1, none⟩ = some (.int .i64 ki.f1) := fun s => cell_some a3 s
  have P4 : ∀ s : SomeW w, s.W.cell? ⟨Ki.block, Ki.off + 2, none⟩ = some (.string ki.f2) := fun s => cell_some a4 s
  have Q0 : ∀ s : SomeW w, s.W.cell? (ad.add (j * 2)) = some (.slice (some Aj) lj cj) := fun s => cell_some b0 s
  have Q1 : ∀ s : SomeW w, s.W.cell? ⟨Aj.block, Aj.off + 1, none⟩ = some (.slice (some Kj) rj dj) := fun s => cell_some b1 s
  have Q2 : ∀ s : SomeW w, s.W.cell? Kj = some (.bool kj.f0) := fun s => cell_some b2 s
  have Q3 : ∀ s : SomeW w, s.W.cell? ⟨Kj.block, Kj.off + 1, none⟩ = some (.int .i64 kj.f1) := fun s => cell_some b3 s
  have Q4 : ∀ s : SomeW w, s.W.cell? ⟨Kj.block, Kj.off + 2, none⟩ = some (.string kj.f2) := fun s => cell_some b4 s
  have HA5 := Aside0.mk a5
  have HB5 := Aside0.mk b5
  have hi0 : (0 : Int) ≤ (i : Int) := by omega
  have hi1 : (i : Int) < (l.length : Int) := by omega
  have hj0 : (0 : Int) ≤ (j : Int) := by omega
  have hj1 : (j : Int) < (l.length : Int) := by omega
  clear lt eq gt a0 a1 a2 a3 a4 a5 b0 b1 b2 b3 b4 b5 hgi hgj h
  go_enter Try.func103, Try.ntmps103
  go_wp2
  refine wp_region_quiet_some mixed_T (by kernel_rfl) ?_
  repeat (go_big_quiet_step (first | (go_at_call 41; refine Calls.below_some (hcmp _))))
  refine wpQuiet_nil ?_
  intro w1 hw'
  obtain ⟨p_, hp_⟩ := hw'
  have hb1 : Below w.heap.size w w1 := by rw [hp_]; exact p_.h
  clear hp_ p_ P0 P1 P2 P3 P4 Q0 Q1 Q2 Q3 Q4 hcmp
  have P5 : ∀ s : SomeW w1, s.W.cell? ⟨(ad.add (i * 2)).block, (ad.add (i * 2)).off + 1, none⟩ = some (.int .i64 ai) := fun s => cell_some ((Below.cell hb1 (World.block_lt_of_cell? _ _ HA5.out)).trans HA5.out) s
  have Q5 : ∀ s : SomeW w1, s.W.cell? ⟨(ad.add (j * 2)).block, (ad.add (j * 2)).off + 1, none⟩ = some (.int .i64 aj) := fun s => cell_some ((Below.cell hb1 (World.block_lt_of_cell? _ _ HB5.out)).trans HB5.out) s
  have HB1 := Aside0.mk hb1
  clear hb1
  by_cases c1 : cv < 0
  · have r1 := LT.out c1
    subst r1
    have d1 : decide (cv < 0) = true := decide_eq_true c1
    go_wp2
    refine wp_region_quiet_some mixed_T (by kernel_rfl) ?_
    repeat (go_big_quiet_step (fail))
    refine wpQuiet_nil ?_
    intro w2 hw'
    obtain ⟨p_, hp_⟩ := hw'
    have hb2 : Below w1.heap.size w1 w2 := by rw [hp_]; exact p_.h
    clear hp_ p_ P5 Q5
    have HB2 := Aside0.mk (below_then HB1.out HB1.out.size hb2)
    clear hb2
    go_wp2
    go_ret
    exact ⟨rfl, HB2.out⟩
  · have d1 : decide (cv < 0) = false := decide_eq_false c1
    by_cases c2 : cv = 0
    · have r1 := EQ.out c2
      subst r1
      have d2 : (cv == 0) = true := beq_iff_eq.2 c2
      clear c2
      go_wp2
      refine wp_region_quiet_some mixed_T (by kernel_rfl) ?_
      repeat (go_big_quiet_step (fail))
      refine wpQuiet_nil ?_
      intro w2 hw'
      obtain ⟨p_, hp_⟩ := hw'
      have hb2 : Below w1.heap.size w1 w2 := by rw [hp_]; exact p_.h
      clear hp_ p_ P5 Q5
      have HB2 := Aside0.mk (below_then HB1.out HB1.out.size hb2)
      clear hb2
      go_wp2
      go_ret
      exact ⟨rfl, HB2.out⟩
    · have r1 := GT.out (by omega) c2
      subst r1
      have d2 : (cv == 0) = false := beq_eq_false_iff_ne.2 c2
      go_wp2
      refine wp_region_quiet_some mixed_T (by kernel_rfl) ?_
      repeat (go_big_quiet_step (fail))
      refine wpQuiet_nil ?_
      intro w2 hw'
      obtain ⟨p_, hp_⟩ := hw'
      have hb2 : Below w1.heap.size w1 w2 := by rw [hp_]; exact p_.h
      clear hp_ p_ P5 Q5
      have HB2 := Aside0.mk (below_then HB1.out HB1.out.size hb2)
      clear hb2
      go_wp2
      go_ret
      exact ⟨rfl, HB2.out⟩
theorem add0 (g k : Nat) : (⟨g, 0, none⟩ : Addr).add k = ⟨g, k, none⟩ := by
  unfold Addr.add
  by_cases h0 : k = 0
  · subst h0; rfl
  · simp [h0]
/-- an element's cells, in a row of the call's own -/
theorem ownH {w w0 : World} {b g c : Nat} {ok : Nat → Prop} {l : List S70} (h : Kd.R (oldK k70 w0) 70 w b ok (.slice (some ⟨g, 0, none⟩) l.length c) l) (i : Nat) (hi : i < l.length) :
    ∃ A0 c0, k70.K w0 l[i] [.slice A0 l[i].f0.length c0, .int .i64 l[i].f1] ∧ w.cell? ⟨g, i * 2, none⟩ = some (.slice A0 l[i].f0.length c0) ∧ w.cell? ⟨g, i * 2 + 1, none⟩ = some (.int .i64 l[i].f1) := by
  obtain ⟨A, c', he, _, hC⟩ := Kd.R_reads h
  injection he with h1 _ _
  subst h1
  obtain ⟨ad, cs, e, _, hK, hc⟩ := Kd.C_get hC z70 (i : Int) (by omega) (by omega)
  cases e
  have hK : k70.K w0 (rd_T70 l (i : Int)) cs := hK
  rw [rdH_at l i hi] at hK
  have hK' := hK
  obtain ⟨A0, c0, rfl, _, _⟩ := k70_open hK
  refine ⟨A0, c0, hK', ?_, ?_⟩
  · have := hc 0 _ rfl
    rw [add0] at this
    exact this
  · have := hc 1 _ rfl
    rw [add0] at this
    exact this
theorem ownBlk {w w0 : World} {b g c : Nat} {ok : Nat → Prop} {l : List S70} (h : Kd.R (oldK k70 w0) 70 w b ok (.slice (some ⟨g, 0, none⟩) l.length c) l) : ∃ cur : Array Value, w.heap[g]? = some (.cells cur 70 (0, 0)) ∧ cur.size = c * 2 ∧ l.length ≤ c ∧ c ≤ 9223372036854775807 := by
  obtain ⟨_, inner, ho, _⟩ := h
  rcases ho.2 with ⟨h1, _⟩ | ⟨g', cap, cur, h1, _, hg, hnc, hcm, hs, _⟩
  · cases h1
  · injection h1 with h2 _ h3
    cases h2
    subst h3
    exact ⟨cur, hg, hs, hnc, hcm⟩
theorem blkSome {w : World} {g o t : Nat} {cur : Array Value} (h : w.heap[g]? = some (.cells cur t (0, 0))) (ho : o < cur.size) : ∃ v, w.cell? ⟨g, o, none⟩ = some v := ⟨cur[o], (blk_cell h o).trans (Array.getElem?_eq_getElem ho)⟩
theorem Swap_T (g c : Nat) (l : List S70) (i j : Nat) (w w0 : World) (b : Nat) (ok : Nat → Prop) (h : Kd.R (oldK k70 w0) 70 w b ok (.slice (some ⟨g, 0, none⟩) l.length c) l) (hi : i < l.length) (hj : j < l.length) (hn : l.length ≤ 4611686018427387904) :
    Calls Try.prog 106 #[.slice (some ⟨g, 0, none⟩) l.length c, .int .i64 i, .int .i64 j] w fun e w' => e = .returned (.tuple #[]) ∧ w.grownBy w' (some g) ∧ Kd.R (oldK k70 w0) 70 w' b ok (.slice (some ⟨g, 0, none⟩) l.length c) ((l.set i l[j]).set j l[i]) := by
  obtain ⟨A0, c0, hKi, x0, x1⟩ := ownH h i hi
  obtain ⟨A1, c1, hKj, y0, y1⟩ := ownH h j hj
  obtain ⟨cur, hb, hsz, hlc, _⟩ := ownBlk h
  have hfin : ∀ u0 u1 v0 v1, k70.K w0 l[i] [u0, u1] → k70.K w0 l[j] [v0, v1] →
      w.grownBy ((((w.drew.setCell ⟨g, i * 2, none⟩ v0).setCell ⟨g, i * 2 + 1, none⟩ v1).setCell ⟨g, j * 2, none⟩ u0).setCell ⟨g, j * 2 + 1, none⟩ u1) (some g) ∧
      Kd.R (oldK k70 w0) 70 ((((w.drew.setCell ⟨g, i * 2, none⟩ v0).setCell ⟨g, i * 2 + 1, none⟩ v1).setCell ⟨g, j * 2, none⟩ u0).setCell ⟨g, j * 2 + 1, none⟩ u1) b ok (.slice (some ⟨g, 0, none⟩) l.length c) ((l.set i l[j]).set j l[i]) := by
    intro u0 u1 v0 v1 hu hv
    obtain ⟨r1, g1⟩ := oldR_put (rfl : k70.sz = 2) (Kd.R_drew h) hi hv
    obtain ⟨r2, g2⟩ := oldR_put (rfl : k70.sz = 2) r1 (i := j) (by rw [List.length_set]; exact hj) hu
    exact ⟨World.grownBy.trans (⟨rfl, rfl, rfl, Nat.le_refl _, fun k _ _ => rfl⟩ : w.grownBy w.drew (some g)) (g1.trans g2), r2⟩
  have HFIN := Aside0.mk (hfin _ _ _ _ hKi hKj)
  have hbD : w.drew.heap[g]? = some (.cells cur 70 (0, 0)) := hb
  generalize l[i].f0.length = li at *
  generalize l[j].f0.length = lj at *
  generalize l[i].f1 = ai at *
  generalize l[j].f1 = aj at *
  clear hfin hKi hKj
  have hi0 : (0 : Int) ≤ (i : Int) := by omega
  have hi1 : (i : Int) < (l.length : Int) := by omega
  have hj0 : (0 : Int) ≤ (j : Int) := by omega
  have hj1 : (j : Int) < (l.length : Int) := by omega
  have f0 := fun o => blk_frozen hbD o
  have hb1 := blk_set (blk_set hbD (i * 2) (.slice A1 lj c1)) (i * 2 + 1) (.int .i64 aj)
  have f1 := fun o => blk_frozen hb1 o
  obtain ⟨v0, e0⟩ := blkSome hb1 (o := j * 2) (by simp; omega)
  obtain ⟨v1, e1⟩ := blkSome hb1 (o := j * 2 + 1) (by simp; omega)
  have fi0 := f0 (i * 2)
  have fi1 := f0 (i * 2 + 1)
  have fj0 := f1 (j * 2)
  have fj1 := f1 (j * 2 + 1)
  clear hb hbD hb1 f0 f1 h hsz
  go_enter Try.func106, Try.ntmps106
  go_wp2
  refine start_ (n := 16) (S := fun w' => w'.cell? ⟨g, i * 2, none⟩ = some (.slice A0 li c0) ∧ w'.cell? ⟨g, i * 2 + 1, none⟩ = some (.int .i64 ai) ∧ w'.cell? ⟨g, j * 2, none⟩ = some (.slice A1 lj c1) ∧ w'.cell? ⟨g, j * 2 + 1, none⟩ = some (.int .i64 aj)) (ds := [13, 15]) #[false, false, false, false, false, false, false, false, false, false, false, false, false, false, false, false] (by kernel_rfl) rfl rfl ⟨(by simpa using x0), (by simpa using x1), (by simpa using y0), (by simpa using y1)⟩ (fun hHeld => ?_)
  generalize w.drew = wD at *
  refine pure_ (i := 0) (N := some 6) (v := ?_) (a' := ?_) #[true, false, false, false, false, false, false, false, false, false, false, false, false, false, false, false] rfl rfl (by kernel_rfl) (fun _ _ _ h => h) (Or.inl ⟨by rfl, ?_⟩) ?_ ?_
  rotate_left
  · intro w'
    go_simp
    with_reducible rfl
  rotate_left
  · simp only [Act.put, List.setIfInBounds_toArray, List.set_cons_zero, List.set_cons_succ, i64_w, i32_w]
    rfl
  refine pure_ (i := 1) (N := some 7) (v := ?_) (a' := ?_) #[true, true, false, false, false, false, false, false, false, false, false, false, false, false, false, false] rfl rfl (by kernel_rfl) (fun _ _ _ h => h) (Or.inl ⟨by rfl, ?_⟩) ?_ ?_
  rotate_left
  · intro w'
    go_simp
    with_reducible rfl
  rotate_left
  · simp only [Act.put, List.setIfInBounds_toArray, List.set_cons_zero, List.set_cons_succ, i64_w, i32_w]
    rfl
  refine pure_ (i := 2) (N := some 8) (v := ?_) (a' := ?_) #[true, true, true, false, false, false, false, false, false, false, false, false, false, false, false, false] rfl rfl (by kernel_rfl) (fun _ _ _ h => h) (Or.inl ⟨by rfl, ?_⟩) ?_ ?_
  rotate_left
  · intro w'
    go_simp
    with_reducible rfl
  rotate_left
  · simp only [Act.put, List.setIfInBounds_toArray, List.set_cons_zero, List.set_cons_succ, i64_w, i32_w]
    rfl
  refine pure_ (i := 3) (N := some 9) (v := ?_) (a' := ?_) #[true, true, true, true, false, false, false, false, false, false, false, false, false, false, false, false] rfl rfl (by kernel_rfl) (fun _ _ _ h => h) (Or.inl ⟨by rfl, ?_⟩) ?_ ?_
  rotate_left
  · intro w'
    go_simp
    with_reducible rfl
  rotate_left
  · simp only [Act.put, List.setIfInBounds_toArray, List.set_cons_zero, List.set_cons_succ, i64_w, i32_w]
    rfl
  refine pure_ (i := 4) (N := some 10) (v := ?_) (a' := ?_) #[true, true, true, true, true, false, false, false, false, false, false, false, false, false, false, false] rfl rfl (by kernel_rfl) (fun _ _ _ h => h) (Or.inl ⟨by rfl, ?_⟩) ?_ ?_
  rotate_left
  · intro w'
    go_simp
    with_reducible rfl
  rotate_left
  · simp only [Act.put, List.setIfInBounds_toArray, List.set_cons_zero, List.set_cons_succ, i64_w, i32_w]
    rfl
  refine pure_ (i := 5) (N := some 11) (v := ?_) (a' := ?_) #[true, true, true, true, true, true, false, false, false, false, false, false, false, false, false, false] rfl rfl (by kernel_rfl) (fun _ _ _ h => h) (Or.inl ⟨by rfl, ?_⟩) ?_ ?_
  rotate_left
  · intro w'
    go_simp
    with_reducible rfl
  rotate_left
  · simp only [Act.put, List.setIfInBounds_toArray, List.set_cons_zero, List.set_cons_succ, i64_w, i32_w]
    rfl
  refine pure_ (i := 6) (N := some 12) (v := ?_) (a' := ?_) #[true, true, true, true, true, true, true, false, false, false, false, false, false, false, false, false] rfl rfl (by kernel_rfl) (fun _ _ _ h => h) (Or.inl ⟨by rfl, ?_⟩) ?_ ?_
  rotate_left
  · intro w'
    go_simp
    with_reducible rfl
  rotate_left
  · simp only [Act.put, List.setIfInBounds_toArray, List.set_cons_zero, List.set_cons_succ, i64_w, i32_w]
    rfl
  refine pure_ (i := 8) (N := some 14) (v := ?_) (a' := ?_) #[true, true, true, true, true, true, true, false, true, false, false, false, false, false, false, false] rfl rfl (by kernel_rfl) (fun _ _ _ h => h) (Or.inl ⟨by rfl, ?_⟩) ?_ ?_
  rotate_left
  · intro w'
    go_simp
    with_reducible rfl
  rotate_left
  · simp only [Act.put, List.setIfInBounds_toArray, List.set_cons_zero, List.set_cons_succ, i64_w, i32_w]
    rfl
  refine pure_ (i := 9) (N := some 15) (v := ?_) (a' := ?_) #[true, true, true, true, true, true, true, false, true, true, false, false, false, false, false, false] rfl rfl (by kernel_rfl) (fun _ _ _ h => h) (Or.inl ⟨by rfl, ?_⟩) ?_ ?_
  rotate_left
  · intro w'
    go_simp
    with_reducible rfl
  rotate_left
  · simp only [Act.put, List.setIfInBounds_toArray, List.set_cons_zero, List.set_cons_succ, i64_w, i32_w]
    rfl
  refine pure_ (i := 10) (N := some 16) (v := ?_) (a' := ?_) #[true, true, true, true, true, true, true, false, true, true, true, false, false, false, false, false] rfl rfl (by kernel_rfl) (fun _ _ _ h => h) (Or.inl ⟨by rfl, ?_⟩) ?_ ?_
  rotate_left
  · intro w'
    go_simp
    with_reducible rfl
  rotate_left
  · simp only [Act.put, List.setIfInBounds_toArray, List.set_cons_zero, List.set_cons_succ, i64_w, i32_w]
    rfl
  refine take_ (i := 7) (N := some 13) (v := ?_) (a' := ?_) #[true, true, true, true, true, true, true, true, true, true, true, false, false, false, false, false] rfl rfl (by kernel_rfl) (fun _ _ _ h => h) (Or.inl ⟨by rfl, ?_⟩) hHeld ?_ ?_
  rotate_left
  · rintro w' ⟨s0, s1, s2, s3⟩
    go_simp
    with_reducible rfl
  rotate_left
  · simp only [Act.put, List.setIfInBounds_toArray, List.set_cons_zero, List.set_cons_succ, i64_w, i32_w]
    rfl
  refine take_ (i := 11) (N := some 17) (v := ?_) (a' := ?_) #[true, true, true, true, true, true, true, true, true, true, true, true, false, false, false, false] rfl rfl (by kernel_rfl) (fun _ _ _ h => h) (Or.inl ⟨by rfl, ?_⟩) hHeld ?_ ?_
  rotate_left
  · rintro w' ⟨s0, s1, s2, s3⟩
    go_simp
    with_reducible rfl
  rotate_left
  · simp only [Act.put, List.setIfInBounds_toArray, List.set_cons_zero, List.set_cons_succ, i64_w, i32_w]
    rfl
  refine pure_ (i := 12) (N := some 18) (v := ?_) (a' := ?_) #[true, true, true, true, true, true, true, true, true, true, true, true, true, false, false, false] rfl rfl (by kernel_rfl) (fun _ _ _ h => h) (Or.inl ⟨by rfl, ?_⟩) ?_ ?_
  rotate_left
  · intro w'
    go_simp
    with_reducible rfl
  rotate_left
  · simp only [Act.put, List.setIfInBounds_toArray, List.set_cons_zero, List.set_cons_succ, i64_w, i32_w]
    rfl
  refine last_ (i := 13) (N := none) #[true, true, true, true, true, true, true, true, true, true, true, true, true, true, false, false] rfl rfl (by kernel_rfl) (by decide) (fun K hK => ?_)
  refine skip_ (w1 := ?_) (by rfl) rfl ?_ ?_
  rotate_left
  · go_simp
    rfl
  refine hK.out _ _ ?_
  clear hK K
  refine pure_ (i := 14) (N := some 19) (v := ?_) (a' := ?_) #[true, true, true, true, true, true, true, true, true, true, true, true, true, true, true, false] rfl rfl (by kernel_rfl) (fun _ _ _ h => h) (Or.inl ⟨by rfl, ?_⟩) ?_ ?_
  rotate_left
  · intro w'
    go_simp
    with_reducible rfl
  rotate_left
  · simp only [Act.put, List.setIfInBounds_toArray, List.set_cons_zero, List.set_cons_succ, i64_w, i32_w]
    rfl
  refine last_ (i := 15) (N := none) #[true, true, true, true, true, true, true, true, true, true, true, true, true, true, true, true] rfl rfl (by kernel_rfl) (by decide) (fun K hK => ?_)
  refine skip_ (w1 := ?_) (by rfl) rfl ?_ ?_
  rotate_left
  · go_simp
    rfl
  refine hK.out _ _ ?_
  clear hK K
  refine done_ (by kernel_rfl) ?_

  go_wp2
  go_end0
  exact ⟨rfl, HFIN.out⟩
/-- the heap's list in memory: what it owns is in O -/
def WaitS (w w0 : World) (p : Nat) (O : Nat → Prop) (l : List S70) : Prop := ∃ A c, w.heap[p]? = some (.cells #[.slice A l.length c] 68 (0, 0)) ∧ Kd.R (oldK k70 w0) 70 w w0.heap.size O (.slice A l.length c) l ∧ ¬ O p
theorem WaitS.keep {w w' w0 : World} {p : Nat} {O : Nat → Prop} {l : List S70} (h : WaitS w w0 p O l) (hF : ∀ k, k < w.heap.size → (O k ∨ k = p) → w'.heap[k]? = w.heap[k]?) : WaitS w' w0 p O l := by
  obtain ⟨A, c, hp, hR, hn⟩ := h
  exact ⟨A, c, (hF p (Array.getElem?_eq_some_iff.1 hp).1 (.inr rfl)).trans hp, Kd.R_step hR (fun k hk hlt => hF k hlt (.inl hk)), hn⟩
theorem WaitS.below {w w' w0 : World} {p : Nat} {O : Nat → Prop} {l : List S70} (h : WaitS w w0 p O l) (hb : Below w.heap.size w w') : WaitS w' w0 p O l := h.keep (fun k hk _ => hb.block k hk)
theorem WaitS.bound {w w0 : World} {p : Nat} {O : Nat → Prop} {l : List S70} (h : WaitS w w0 p O l) : WaitS w w0 p (fun k => O k ∧ k < w.heap.size) l := by
  obtain ⟨A, c, hp, hR, hn⟩ := h
  exact ⟨A, c, hp, Kd.R_mono (Kd.R_bound hR) (fun k hk => ⟨hk.1, hk.2.2.1⟩), fun h => hn h.1⟩
theorem LenM_T (A : Option Addr) (n c : Nat) (w : World) : Calls Try.prog 39 #[.slice A n c] w fun e w' => e = .returned (.int .i64 n) ∧ w' = w := by
  go_enter Try.func39, Try.ntmps39
  go_wp2
  go_ret
  exact ⟨rfl, rfl⟩
theorem R_own70 {w w0 : World} {b n c : Nat} {ok : Nat → Prop} {A : Option Addr} {l : List S70} (h : Kd.R (oldK k70 w0) 70 w b ok (.slice A n c) l) (hl : 0 < l.length) : ∃ g, A = some ⟨g, 0, none⟩ ∧ ok g ∧ n = l.length := by
  obtain ⟨h0, inner, ho, _⟩ := h
  rcases ho.2 with ⟨_, hn⟩ | ⟨g, cap, cur, he, _⟩
  · omega
  · injection he with h1 h2 h3
    subst h1
    exact ⟨g, rfl, h0 g rfl, h2⟩
theorem PopM_T (p : Nat) (O : Nat → Prop) (l : List S70) (x : S70) (w w0 : World) (h : WaitS w w0 p O (l ++ [x])) (hn : l.length ≤ 4611686018427387904) :
    Calls Try.prog 104 #[.pointer (some ⟨p, 0, none⟩)] w fun e w' => (∃ A0 c0, e = .returned (.iface 70 (.agg #[.slice A0 x.f0.length c0, .int .i64 x.f1])) ∧ k70.K w0 x [.slice A0 x.f0.length c0, .int .i64 x.f1]) ∧ Fr (fun k => k = p) w w' ∧ WaitS w' w0 p O l := by
  obtain ⟨A, c, hp, hR, hnp⟩ := h
  obtain ⟨g, eA, hg, _⟩ := R_own70 hR (by simp)
  subst eA
  have hlast : l.length < (l ++ [x]).length := by simp
  obtain ⟨A0, c0, hK, x0, x1⟩ := ownH hR l.length hlast
  have hgx : (l ++ [x])[l.length] = x := by simp
  rw [hgx] at hK x0 x1
  obtain ⟨cur, hb, hsz, hlc, _⟩ := ownBlk hR
  have hlen : (l ++ [x]).length = l.length + 1 := by simp
  rw [hlen] at hp hlc
  have q0 := (blk_cell hp 0).trans rfl
  have qf := blk_frozen hp 0
  have hR1 := Kd.R_take hR (m := l.length) (by simp)
  rw [List.take_left'  rfl] at hR1
  have hgp : g ≠ p := fun e => hnp (e ▸ hg)
  have HR1 := Aside0.mk hR1
  have HP := Aside0.mk hp
  have HK := Aside0.mk hK
  have h0 : (0 : Int) ≤ (l.length : Int) := by omega
  have h1 : (l.length : Int) < (l.length + 1 : Nat) := by omega
  have h2 : ((l.length + 1 : Nat) : Int) - 1 = (l.length : Int) := by omega
  have h3 : (l.length : Int) ≤ (c : Int) := by omega
  have hpl := (Array.getElem?_eq_some_iff.1 hp).1
  have hbx := (Sk.heap_set_ne (w.alloc (.cells #[.slice A0 x.f0.length c0, .int .i64 x.f1] 70)) p 0 w.heap.size (.slice (some ⟨g, 0, none⟩) l.length c) (by omega)).trans (heap_alloc_new w (.cells #[.slice A0 x.f0.length c0, .int .i64 x.f1] 70))
  have e0 := (blk_cell hbx 0).trans rfl
  have e1 := (blk_cell hbx 1).trans rfl
  have hgl : g < w.heap.size := (Array.getElem?_eq_some_iff.1 hb).1
  have hfin : Fr (fun k => k = p) w ((w.setCell ⟨p, 0, none⟩ (.slice (some ⟨g, 0, none⟩) l.length c)).alloc (.cells #[.slice A0 x.f0.length c0, .int .i64 x.f1] 70)) ∧
      WaitS ((w.setCell ⟨p, 0, none⟩ (.slice (some ⟨g, 0, none⟩) l.length c)).alloc (.cells #[.slice A0 x.f0.length c0, .int .i64 x.f1] 70)) w0 p O l := by
    have hb1 := below_alloc (Below.refl _ (w.setCell ⟨p, 0, none⟩ (.slice (some ⟨g, 0, none⟩) l.length c))) (.cells #[.slice A0 x.f0.length c0, .int .i64 x.f1] 70)
    refine ⟨Fr.trans ((Fr.of_below (Below.refl _ w) : Fr (fun k => k = p) w w).set (.inl rfl) 0 _) (Fr.of_below hb1), some ⟨g, 0, none⟩, c, blk_below (blk_set hp 0 _) hb1, ?_, hnp⟩
    exact Kd.R_below (Kd.R_set hR1 hp (fun q hq => by simp [oldK] at hq; omega) 0 _) hb1
  have HFIN := Aside0.mk hfin
  clear hR hR1 hp hb hsz hlen hgx hlast hbx hfin
  go_enter Try.func104, Try.ntmps104
  go_wp2
  go_ret
  exact ⟨⟨A0, c0, rfl, HK.out⟩, HFIN.out⟩
theorem info70 : (Try.prog.info? 70).map (fun i => (i.zero, i.size, i.bytes)) = some (some (.agg #[(.slice none 0 0), (.int .i64 0)]), 2, 32) := by kernel_rfl
theorem tassert70 (v : Value) (w : World) : (Instr.typeAssert (.iface 70 v) 20 70 false).run Try.prog w = .ok v w := by kernel_rfl
theorem cell_alloc1 {w : World} {a : Addr} {v : Value} {o : Obj} (h : w.cell? a = some v) : (w.alloc o).cell? a = some v := (World.cell?_alloc_lt _ _ _ (World.block_lt_of_cell? _ _ h)).trans h
theorem cell_alloc1_inv {w : World} {a : Addr} {v : Value} {o : Obj} (h : (w.alloc o).cell? a = some v) (hl : a.block < w.heap.size) : w.cell? a = some v := (World.cell?_alloc_lt _ _ _ hl).symm.trans h
theorem PushM_T (p : Nat) (O : Nat → Prop) (l : List S70) (x : S70) (A0 : Option Addr) (c0 : Nat) (w w0 : World) (h : WaitS w w0 p O l) (hK : k70.K w0 x [.slice A0 x.f0.length c0, .int .i64 x.f1]) (hb : Below w0.heap.size w0 w) (hn : l.length ≤ 1099511627776) :
    Calls Try.prog 105 #[.pointer (some ⟨p, 0, none⟩), .iface 70 (.agg #[.slice A0 x.f0.length c0, .int .i64 x.f1])] w fun e w' => e = .returned (.tuple #[]) ∧ Fr (fun k => k = p ∨ O k) w w' ∧ WaitS w' w0 p (fun k => (O k ∨ w.heap.size ≤ k) ∧ k < w'.heap.size) (l ++ [x]) := by
  obtain ⟨A, c, hp, hR, hnO⟩ := h
  have q0 := (blk_cell hp 0).trans rfl
  have hpl0 := (Array.getElem?_eq_some_iff.1 hp).1
  have hown : ∀ k, some k = (Value.slice A l.length c).ownBlock → O k := fun k hk => hR.1 k hk.symm
  have hnp : some (⟨p, 0, none⟩ : Addr).block ≠ (Value.slice A l.length c).ownBlock := fun e => hnO (hown p e)
  have HK := Aside0.mk hK
  have HPB : Aside0 (∀ w3, w.drew.grownBy w3 (Value.slice A l.length c).ownBlock → w3.heap[p]? = some (.cells #[.slice A l.length c] 68 (0, 0))) := ⟨fun w3 hg => (hg.block p hpl0 hnp).trans hp⟩
  have HRD : Aside0 (Kd.R (oldK k70 w0) 70 w.drew w0.heap.size (fun k => O k ∨ w.drew.heap.size ≤ k) (.slice A l.length c) l) := ⟨Kd.R_mono (Kd.R_drew hR) (fun _ h => .inl h)⟩
  have HBD : Aside0 (Below w0.heap.size w0 w.drew) := ⟨below_drew1 hb⟩
  have HFIN : Aside0 (∀ A1 c1 w3, w.drew.grownBy w3 (Value.slice A l.length c).ownBlock → Kd.R (oldK k70 w0) 70 w3 w0.heap.size (fun k => O k ∨ w.drew.heap.size ≤ k) (.slice A1 (l.length + 1) c1) (l ++ [x]) →
      Fr (fun k => k = p ∨ O k) w (w3.setCell ⟨p, 0, none⟩ (.slice A1 (l.length + 1) c1)) ∧ WaitS (w3.setCell ⟨p, 0, none⟩ (.slice A1 (l.length + 1) c1)) w0 p (fun k => (O k ∨ w.heap.size ≤ k) ∧ k < (w3.setCell ⟨p, 0, none⟩ (.slice A1 (l.length + 1) c1)).heap.size) (l ++ [x])) := ⟨fun A1 c1 w3 hg hr => by
    have hp3 : w3.heap[p]? = some (.cells #[.slice A l.length c] 68 (0, 0)) := (hg.block p hpl0 hnp).trans hp
    have hF : Fr (fun k => k = p ∨ O k) w w3 := ⟨hg.os, hg.tape, hg.output, hg.size, fun k hk hno => hg.block k hk (fun e => hno (.inr (hown k e)))⟩
    refine ⟨hF.set (.inl (.inl rfl)) 0 _, ?_⟩
    have hr2 := Kd.R_set hr hp3 (fun q hq => by simp [oldK] at hq; omega) 0 (.slice A1 (l.length + 1) c1)
    have he : (l ++ [x]).length = l.length + 1 := by rw [List.length_append, List.length_singleton]
    refine ⟨A1, c1, ?_, ?_, fun h => h.1.elim hnO (fun h2 => by omega)⟩
    · rw [he]; exact blk_set hp3 0 _
    · rw [he]; exact Kd.R_mono (Kd.R_bound hr2) (fun k hk => ⟨hk.1, hk.2.2.1⟩)⟩
  have hpl : (⟨p, 0, none⟩ : Addr).block < w.drew.heap.size := hpl0
  clear hp hR hK hb hown hpl0
  have hta := fun w => tassert70 (.agg #[.slice A0 x.f0.length c0, .int .i64 x.f1]) w
  go_enter Try.func105, Try.ntmps105
  go_wp2
  refine start_ (n := 10) (S := fun w' => w'.cell? ⟨p, 0, none⟩ = some (.slice A l.length c)) (ds := [9]) #[false, false, false, false, false, false, false, false, false, false] (by kernel_rfl) rfl rfl ((by simpa using q0)) (fun hHeld => ?_)
  generalize w.drew = wD at *
  refine pure_ (i := 0) (N := some 4) (v := ?_) (a' := ?_) #[true, false, false, false, false, false, false, false, false, false] rfl rfl (by kernel_rfl) (fun _ _ _ h => h) (Or.inl ⟨by rfl, ?_⟩) ?_ ?_
  rotate_left
  · intro w'
    go_simp
    with_reducible rfl
  rotate_left
  · simp only [Act.put, List.setIfInBounds_toArray, List.set_cons_zero, List.set_cons_succ, i64_w, i32_w]
    rfl
  refine pure_ (i := 1) (N := some 5) (v := ?_) (a' := ?_) #[true, true, false, false, false, false, false, false, false, false] rfl rfl (by kernel_rfl) (fun _ _ _ h => h) (Or.inl ⟨by rfl, ?_⟩) ?_ ?_
  rotate_left
  · intro w'
    go_simp
    with_reducible rfl
  rotate_left
  · simp only [Act.put, List.setIfInBounds_toArray, List.set_cons_zero, List.set_cons_succ, i64_w, i32_w]
    rfl
  refine pure_ (i := 2) (N := some 6) (v := ?_) (a' := ?_) #[true, true, true, false, false, false, false, false, false, false] rfl rfl (by kernel_rfl) (fun _ _ _ h => h) (Or.inl ⟨by rfl, ?_⟩) ?_ ?_
  rotate_left
  · intro w'
    go_simp
    with_reducible rfl
  rotate_left
  · simp only [Act.put, List.setIfInBounds_toArray, List.set_cons_zero, List.set_cons_succ, i64_w, i32_w]
    rfl
  refine pure_ (i := 4) (N := some 8) (v := ?_) (a' := ?_) #[true, true, true, false, true, false, false, false, false, false] rfl rfl (by kernel_rfl) (fun _ _ _ h => h) (Or.inl ⟨by rfl, ?_⟩) ?_ ?_
  rotate_left
  · intro w'
    go_simp
    with_reducible rfl
  rotate_left
  · simp only [Act.put, List.setIfInBounds_toArray, List.set_cons_zero, List.set_cons_succ, i64_w, i32_w]
    rfl
  refine pure_ (i := 5) (N := some 9) (v := ?_) (a' := ?_) #[true, true, true, false, true, true, false, false, false, false] rfl rfl (by kernel_rfl) (fun _ _ _ h => h) (Or.inl ⟨by rfl, ?_⟩) ?_ ?_
  rotate_left
  · intro w'
    go_simp
    with_reducible rfl
  rotate_left
  · simp only [Act.put, List.setIfInBounds_toArray, List.set_cons_zero, List.set_cons_succ, i64_w, i32_w]
    rfl
  refine take_ (i := 3) (N := some 7) (v := ?_) (a' := ?_) #[true, true, true, true, true, true, false, false, false, false] rfl rfl (by kernel_rfl) (fun _ _ _ h => h) (Or.inl ⟨by rfl, ?_⟩) hHeld ?_ ?_
  rotate_left
  · intro w' s0
    go_simp
    with_reducible rfl
  rotate_left
  · simp only [Act.put, List.setIfInBounds_toArray, List.set_cons_zero, List.set_cons_succ, i64_w, i32_w]
    rfl
  refine one_ (i := 6) (N := some 10) #[true, true, true, true, true, true, true, false, false, false] rfl rfl (by kernel_rfl) (by decide) (fun K hK => ?_)
  refine value_ (w1 := ?_) (v := ?_) (by rfl) rfl ?_ ?_
  rotate_left 2
  · go_simp
    constructor
    · rfl
    · rfl
  refine hK.out _ _ ((cell_alloc1 hHeld)) (fun hHeld => ?_)
  clear hK K
  refine norm_ (a' := ?_) ?_ ?_
  rotate_left
  · show Act.put _ (some 10) _ = _
    simp only [Act.put, List.setIfInBounds_toArray, List.set_cons_zero, List.set_cons_succ, i64_w, i32_w]
    rfl
  refine one_ (i := 7) (N := some 11) #[true, true, true, true, true, true, true, true, false, false] rfl rfl (by kernel_rfl) (by decide) (fun K hK => ?_)
  refine Kd.R_append_step (oldK k70 w0) (w0 := w0) w0.heap.size (by rfl) (.tmp 7) (.tmp 10) 68 70 (.agg #[(.slice none 0 0), (.int .i64 0)]) 32 rfl Try.underlying68 info70 rfl (show 0 < 2 by decide) (by omega) (.slice A l.length c) l x [.slice A0 x.f0.length c0, .int .i64 x.f1] (fun k => O k ∨ wD.heap.size ≤ k) (fun _ => False) rfl rfl HK.out (fun _ h => h.elim) (fun _ h => .inr h) HRD.out HBD.out HBD.out.size (by omega) ?_
  intro v1 w3 ho hb hg hat
  have HS0_ := cell_grown hg (cell_alloc1_inv hHeld hpl) hnp
  obtain ⟨A1, c1, hv1⟩ := Kd.R_slice ho
  rw [List.length_append, List.length_singleton] at hv1
  subst hv1
  have HO3 := Aside0.mk ho
  have HG3 := Aside0.mk hg
  have f3 : w3.frozen? ⟨p, 0, none⟩ = false := blk_frozen (HPB.out w3 hg) 0
  clear ho hb hg hat
  refine hK.out _ _ (HS0_) (fun hHeld => ?_)
  clear hK K
  refine norm_ (a' := ?_) ?_ ?_
  rotate_left
  · show Act.put _ (some 11) _ = _
    simp only [Act.put, List.setIfInBounds_toArray, List.set_cons_zero, List.set_cons_succ, i64_w, i32_w]
    rfl
  refine pure_ (i := 8) (N := some 12) (v := ?_) (a' := ?_) #[true, true, true, true, true, true, true, true, true, false] rfl rfl (by kernel_rfl) (fun _ _ _ h => h) (Or.inl ⟨by rfl, ?_⟩) ?_ ?_
  rotate_left
  · intro w'
    go_simp
    with_reducible rfl
  rotate_left
  · simp only [Act.put, List.setIfInBounds_toArray, List.set_cons_zero, List.set_cons_succ, i64_w, i32_w]
    rfl
  refine last_ (i := 9) (N := none) #[true, true, true, true, true, true, true, true, true, true] rfl rfl (by kernel_rfl) (by decide) (fun K hK => ?_)
  refine skip_ (w1 := ?_) (by rfl) rfl ?_ ?_
  rotate_left
  · go_simp
    rfl
  refine hK.out _ _ ?_
  clear hK K
  refine done_ (by kernel_rfl) ?_

  go_wp2
  go_end0
  exact ⟨rfl, HFIN.out _ _ _ HG3.out HO3.out⟩
end Go.Proofs.Ythlelhndmnkmjaa.Pr
end
section
namespace Go.Proofs.Ythlelhndmnkmjaa.Pr
open Go.RowKit Go.Proofs.Ythlelhndmnkmjaa.Brid Go.Proofs.YthlelhndmnkmjaaW.PrintWords Go.Proofs.YthlelhndmnkmjaaW.PrintLast Go.Proofs.YthlelhndmnkmjaaW.PrintMore
set_option linter.unusedVariables false
set_option linter.unusedSimpArgs false
set_option maxHeartbeats 4000000
set_option maxRecDepth 100000
section
open Go.Sort
section
variable {α : Type} [Inhabited α] {lt : α → α → Bool}
/-- container/heap's up: the element at j goes up while it is greater (in lt) than its parent -/
def siftUp (lt : α → α → Bool) (d : Array α) (j : Nat) : Array α :=
  if h : j = 0 then d else if lt d[(j - 1) / 2]! d[j]! then siftUp lt (swp d ((j - 1) / 2) j) ((j - 1) / 2) else d
termination_by j
decreasing_by omega
/-- a heap but at j, and j's parent is not less than j's children -/
def UpOk (lt : α → α → Bool) (n : Nat) (d : Array α) (j : Nat) : Prop :=
  (∀ i k, (k = 2 * i + 1 ∨ k = 2 * i + 2) → k < n → k ≠ j → lt d[i]! d[k]! = false) ∧ (j ≠ 0 → ∀ c, (c = 2 * j + 1 ∨ c = 2 * j + 2) → c < n → lt d[(j - 1) / 2]! d[c]! = false)
theorem siftUp_heap (h : SWO lt) (n : Nat) : ∀ (m j : Nat) (d : Array α), j ≤ m → j < n → n ≤ d.size → UpOk lt n d j →
    (∀ i, i < n → Ok lt 0 n (siftUp lt d j) i) ∧ PermIn 0 n d (siftUp lt d j) := by
  intro m
  induction m with
  | zero =>
    intro j d hj hjn hs ⟨h1, h2⟩
    obtain rfl : j = 0 := by omega
    rw [siftUp, dif_pos rfl]
    exact ⟨fun i hi k hk hkn => by rw [Nat.zero_add, Nat.zero_add]; exact h1 i k hk hkn (by omega), permIn_refl d _ _⟩
  | succ m ih =>
    intro j d hj hjn hs ⟨h1, h2⟩
    rw [siftUp]
    by_cases h0 : j = 0
    · rw [dif_pos h0]
      subst h0
      exact ⟨fun i hi k hk hkn => by rw [Nat.zero_add, Nat.zero_add]; exact h1 i k hk hkn (by omega), permIn_refl d _ _⟩
    rw [dif_neg h0]
    generalize hp : (j - 1) / 2 = p at *
    have hpj : p < j := by omega
    have hjp : j = 2 * p + 1 ∨ j = 2 * p + 2 := by omega
    cases hl : lt d[p]! d[j]! with
    | false =>
      rw [if_neg (by simp)]
      refine ⟨fun i hi k hk hkn => ?_, permIn_refl d _ _⟩
      rw [Nat.zero_add, Nat.zero_add]
      by_cases hkj : k = j
      · subst hkj
        obtain rfl : i = p := by omega
        exact hl
      · exact h1 i k hk hkn hkj
    | true =>
      rw [if_pos rfl]
      have gP : (swp d p j)[p]! = d[j]! := swp_left d _ _ (by omega) (by omega)
      have gJ : (swp d p j)[j]! = d[p]! := swp_right d _ _ (by omega)
      have gO : ∀ k, k ≠ p → k ≠ j → (swp d p j)[k]! = d[k]! := fun k h1 h2 => swp_other d _ _ _ (by omega) (by omega)
      have hsib : ∀ c, (c = 2 * p + 1 ∨ c = 2 * p + 2) → c < n → c ≠ j → lt d[j]! d[c]! = false := fun c hc hcn hcj => by
        cases hx : lt d[j]! d[c]! with
        | false => rfl
        | true => have := h.trans _ _ _ hl hx; rw [h1 p c hc hcn hcj] at this; cases this
      have hU : UpOk lt n (swp d p j) p := by
        refine ⟨fun i k hk hkn hkp => ?_, fun hp0 c hc hcn => ?_⟩
        · by_cases hip : i = p
          · subst hip
            rw [gP]
            by_cases hkj : k = j
            · subst hkj; rw [gJ]; exact h.asym hl
            · rw [gO k (by omega) hkj]; exact hsib k hk hkn hkj
          · by_cases hij : i = j
            · subst hij
              rw [gJ, gO k (by omega) (by omega)]
              exact h2 h0 k hk hkn
            · rw [gO i hip hij]
              by_cases hkj : k = j
              · subst hkj; omega
              · rw [gO k hkp hkj]; exact h1 i k hk hkn hkj
        · have hpp : (p - 1) / 2 ≠ p := by omega
          have hpj2 : (p - 1) / 2 ≠ j := by omega
          rw [gO _ hpp hpj2]
          have hpar : lt d[(p - 1) / 2]! d[p]! = false := h1 _ p (by omega) (by omega) (by omega)
          by_cases hcj : c = j
          · subst hcj; rw [gJ]; exact hpar
          · rw [gO c (by omega) hcj]
            exact h.ntrans _ _ _ hpar (h1 p c hc hcn hcj)
      obtain ⟨r1, r2⟩ := ih p (swp d p j) (by omega) (by omega) (by rw [size_swp]; exact hs) hU
      exact ⟨r1, permIn_trans _ _ _ _ _ (swp_permIn d 0 n p j (by omega) (by omega) (by omega) (by omega) hs) r2⟩
end
end
theorem lessH_irrefl (a : S70) : lessH a a = false := by simp [lessH, lessT_irrefl]
theorem lessH_iff {a b : S70} : lessH a b = true ↔ lessT (hkT a) (hkT b) = true ∨ (eqK (hkT a) (hkT b) = true ∧ a.f1 < b.f1) := by simp [lessH]
theorem eqK_less {a b c : S37} (h : eqK a b = true) (k : lessT b c = true) : lessT a c = true := by
  cases hc : lessT a c with
  | true => rfl
  | false => rw [notlessT_trans (eqK_iff.1 h).2 hc] at k; cases k
theorem lessH_trans {a b c : S70} (h : lessH a b = true) (k : lessH b c = true) : lessH a c = true := by
  rw [lessH_iff] at *
  rcases h with h | ⟨h, h'⟩ <;> rcases k with k | ⟨k, k'⟩
  · exact .inl (lessT_trans h k)
  · exact .inl (less_eqK h k)
  · exact .inl (eqK_less h k)
  · exact .inr ⟨eqK_trans h k, by omega⟩
theorem lessH_total {a b : S70} (h : lessH a b = false) : lessH b a = true ∨ (eqK (hkT a) (hkT b) = true ∧ a.f1 = b.f1) := by
  have h1 : ¬ (lessT (hkT a) (hkT b) = true ∨ (eqK (hkT a) (hkT b) = true ∧ a.f1 < b.f1)) := fun hh => by rw [lessH_iff.2 hh] at h; cases h
  cases hl : lessT (hkT b) (hkT a) with
  | true => exact .inl (lessH_iff.2 (.inl hl))
  | false =>
    have hab : lessT (hkT a) (hkT b) = false := by
      cases hx : lessT (hkT a) (hkT b) with
      | false => rfl
      | true => exact absurd (.inl hx) h1
    have he : eqK (hkT a) (hkT b) = true := eqK_iff.2 ⟨hab, hl⟩
    by_cases hlt : b.f1 < a.f1
    · exact .inl (lessH_iff.2 (.inr ⟨eqK_symm he, hlt⟩))
    · exact .inr ⟨he, by have : ¬ a.f1 < b.f1 := fun hx => h1 (.inr ⟨he, hx⟩); omega⟩
theorem lessH_ntrans {a b c : S70} (h : lessH a b = false) (k : lessH b c = false) : lessH a c = false := by
  cases hc : lessH a c with
  | false => rfl
  | true =>
    exfalso
    have hc' := lessH_iff.1 hc
    rcases lessH_total h with h1 | ⟨h1, h2⟩ <;> rcases lessH_total k with k1 | ⟨k1, k2⟩
    · have := lessH_trans (lessH_trans k1 h1) hc; rw [lessH_irrefl] at this; cases this
    · have : lessH b a = true := h1
      have hbc : lessH b c = true := lessH_trans this hc
      rw [hbc] at k; cases k
    · have hab : lessH a b = true := lessH_trans hc k1
      rw [hab] at h; cases h
    · have hac := eqK_trans h1 k1
      rcases hc' with hx | ⟨_, hx⟩
      · rw [(eqK_iff.1 hac).1] at hx; cases hx
      · omega
/-- the kit's heap is of the greatest: the order the other way round -/
def ltH (a b : S70) : Bool := lessH b a
theorem swoH : Go.Sort.SWO ltH := ⟨lessH_irrefl, fun _ _ _ h k => lessH_trans k h, fun _ _ _ h k => lessH_ntrans k h⟩
theorem bangH {d : Array S70} {i : Nat} (h : i < d.size) : d[i]! = d.toList[i]'(by simpa using h) := by
  rw [getElem!_pos d i h]; rfl
theorem swp_list (d : Array S70) (i j : Nat) (hi : i < d.size) (hj : j < d.size) : (Go.Sort.swp d i j).toList = (d.toList.set i (d.toList[j]'(by simpa using hj))).set j (d.toList[i]'(by simpa using hi)) := by
  unfold Go.Sort.swp
  rw [Array.toList_setIfInBounds, Array.toList_setIfInBounds, bangH hi, bangH hj]
theorem swp_mem {d : Array S70} {i j : Nat} (hi : i < d.size) (hj : j < d.size) {x : S70} (hx : x ∈ (Go.Sort.swp d i j).toList) : x ∈ d.toList := by
  rw [swp_list d i j hi hj] at hx
  rcases List.mem_or_eq_of_mem_set hx with h | h
  · rcases List.mem_or_eq_of_mem_set h with h | h
    · exact h
    · rw [h]; exact List.getElem_mem _
  · rw [h]; exact List.getElem_mem _
/-- what a walk over the heap needs: the list in memory, its elements fit for Less -/
structure HpS (w w0 : World) (p : Nat) (O : Nat → Prop) (d : Array S70) : Prop where
  wt : WaitS w w0 p O d.toList
  bl : Below w0.heap.size w0 w
  good : ∀ x ∈ d.toList, GoodH x
  sz : d.size ≤ 1099511627776
theorem HpS.below {w w' w0 : World} {p : Nat} {O : Nat → Prop} {d : Array S70} (h : HpS w w0 p O d) (hb : Below w.heap.size w w') : HpS w' w0 p O d := ⟨h.wt.below hb, below_then h.bl h.bl.size hb, h.good, h.sz⟩
theorem HpS.less {w w0 : World} {p : Nat} {O : Nat → Prop} {d : Array S70} (h : HpS w w0 p O d) : ∃ A c, w.cell? ⟨p, 0, none⟩ = some (.slice A d.size c) ∧
    ∀ (i j : Nat) (hi : i < d.size) (hj : j < d.size), Calls Try.prog 103 #[.slice A d.size c, .int .i64 i, .int .i64 j] w fun e w' => e = .returned (.bool (ltH d[j]! d[i]!)) ∧ Below w.heap.size w w' := by
  obtain ⟨A, c, hp, hR, _⟩ := h.wt
  have hl : d.toList.length = d.size := by simp
  obtain ⟨A', c', he, hlc, hC⟩ := Kd.R_reads hR
  injection he with h1 _ h3
  subst h1 h3
  refine ⟨A, c, by rw [← hl]; exact (blk_cell hp 0).trans rfl, fun i j hi hj => ?_⟩
  have := Less_T A c d.toList i j w (oldK_C hC h.bl) (by simpa using hi) (by simpa using hj) (h.good _ (List.getElem_mem _)) (h.good _ (List.getElem_mem _)) (by have := h.sz; rw [hl]; omega)
  rw [bangH hi, bangH hj]
  exact this
theorem HpS.swap {w w0 : World} {p : Nat} {O : Nat → Prop} {d : Array S70} (h : HpS w w0 p O d) (hOb : ∀ k, O k → w0.heap.size ≤ k) : ∃ A c, w.cell? ⟨p, 0, none⟩ = some (.slice A d.size c) ∧
    ∀ (i j : Nat) (hi : i < d.size) (hj : j < d.size), Calls Try.prog 106 #[.slice A d.size c, .int .i64 i, .int .i64 j] w fun e w' => e = .returned (.tuple #[]) ∧ Fr O w w' ∧ HpS w' w0 p O (Go.Sort.swp d i j) := by
  obtain ⟨A, c, hp, hR, hnp⟩ := h.wt
  have hl : d.toList.length = d.size := by simp
  refine ⟨A, c, by rw [← hl]; exact (blk_cell hp 0).trans rfl, fun i j hi hj => ?_⟩
  obtain ⟨g, eA, hg, _⟩ := R_own70 hR (by rw [hl]; omega)
  subst eA
  have := Swap_T g c d.toList i j w w0 w0.heap.size O hR (by simpa using hi) (by simpa using hj) (by have := h.sz; rw [hl]; omega)
  refine (show Calls Try.prog 106 #[.slice (some ⟨g, 0, none⟩) d.size c, .int .i64 i, .int .i64 j] w _ from this).mono ?_
  rintro e w' ⟨rfl, hgr, hR'⟩
  have hF : Fr O w w' := ⟨hgr.os, hgr.tape, hgr.output, hgr.size, fun k hk hno => hgr.block k hk (fun e => by cases e; exact hno hg)⟩
  refine ⟨rfl, hF, ⟨⟨some ⟨g, 0, none⟩, c, ?_, ?_, hnp⟩, below_fr h.bl hF hOb, fun x hx => h.good x (swp_mem hi hj hx), by rw [Go.Sort.size_swp]; exact h.sz⟩⟩
  · rw [show (Go.Sort.swp d i j).toList.length = d.toList.length by simp [Go.Sort.size_swp]]
    exact (hF.block p (Array.getElem?_eq_some_iff.1 hp).1 hnp).trans hp
  · rw [swp_list d i j hi hj, show ((d.toList.set i (d.toList[j]'(by simpa using hj))).set j (d.toList[i]'(by simpa using hi))).length = d.size by simp]
    exact hR'
theorem sift_stop {n i : Nat} {d : Array S70} (h : n ≤ 2 * i + 1) : Go.Sort.siftDown ltH n 0 i d = d := by rw [Go.Sort.siftDown, dif_pos (by omega)]
theorem sift_right {n i : Nat} {d : Array S70} (h : 2 * i + 2 < n) (h1 : ltH d[2 * i + 1]! d[2 * i + 2]! = true) : Go.Sort.siftDown ltH n 0 i d = if ltH d[i]! d[2 * i + 2]! = true then Go.Sort.siftDown ltH n 0 (2 * i + 2) (Go.Sort.swp d i (2 * i + 2)) else d := by
  rw [Go.Sort.siftDown, dif_neg (by omega)]
  simp only [Nat.zero_add]
  rw [show 2 * i + 1 + 1 = 2 * i + 2 by omega, if_pos (by simp [h, h1]), dif_pos h]
  cases ltH d[i]! d[2 * i + 2]! <;> simp
theorem sift_left {n i : Nat} {d : Array S70} (h : 2 * i + 1 < n) (h1 : 2 * i + 2 < n → ltH d[2 * i + 1]! d[2 * i + 2]! = false) : Go.Sort.siftDown ltH n 0 i d = if ltH d[i]! d[2 * i + 1]! = true then Go.Sort.siftDown ltH n 0 (2 * i + 1) (Go.Sort.swp d i (2 * i + 1)) else d := by
  rw [Go.Sort.siftDown, dif_neg (by omega)]
  simp only [Nat.zero_add]
  rw [show 2 * i + 1 + 1 = 2 * i + 2 by omega, if_neg (by
    by_cases h2 : 2 * i + 2 < n
    · simp [h1 h2]
    · simp [h2])]
  cases ltH d[i]! d[2 * i + 1]! <;> simp
theorem down_T (p : Nat) (O : Nat → Prop) (d0 : Array S70) (i0 n : Nat) (w w0 : World) (h : HpS w w0 p O d0) (hOb : ∀ k, O k → w0.heap.size ≤ k) (hn : n ≤ d0.size) (hi0 : i0 ≤ 1099511627776) :
    Calls Try.prog 68 #[.iface 66 (.pointer (some ⟨p, 0, none⟩)), .int .i64 i0, .int .i64 n] w fun e w' => (∃ r, e = .returned (.bool r)) ∧ Fr O w w' ∧ HpS w' w0 p O (Go.Sort.siftDown ltH n 0 i0 d0) := by
  have HH := Aside0.mk h
  have HOB := Aside0.mk hOb
  have hnz : n ≤ 1099511627776 := by have := h.sz; omega
  clear h hOb
  go_enter Try.func68, Try.ntmps68
  go_wp2
  go_loopg [7] n (fun kx a wr => ∃ (i : Nat) (d : Array S70), a = .int .i64 i ∧ i ≤ 1099511627776 ∧ n - i ≤ kx ∧ Aside0 (HpS wr w0 p O d) ∧ Aside0 (d.size = d0.size) ∧ Aside0 (Fr O w wr) ∧ Aside0 (Go.Sort.siftDown ltH n 0 i d = Go.Sort.siftDown ltH n 0 i0 d0))
  case atStart => exact ⟨i0, d0, rfl, by omega, by omega, HH, ⟨rfl⟩, ⟨Fr.of_below (Below.refl _ _)⟩, ⟨rfl⟩⟩
  case round =>
    obtain ⟨i, d, rfl, hin, hkx, HP, HZ, HF, HQ⟩ := hrel
    by_cases hj : n ≤ 2 * i + 1
    · have hfin := sift_stop (d := d) hj
      have HFIN := Aside0.mk (hfin.symm.trans HQ.out)
      have e1 : (2 * (i : Int) + 1 ≥ (n : Int)) := by omega
      have e2 : decide (2 * (i : Int) + 1 ≥ (n : Int)) = true := decide_eq_true e1
      clear hfin
      go_wp2
      go_ret
      exact ⟨⟨_, rfl⟩, HF.out, by rw [← HFIN.out]; exact HP.out⟩
    · have e1 : ¬ (2 * (i : Int) + 1 ≥ (n : Int)) := by omega
      have e2 : decide (2 * (i : Int) + 1 ≥ (n : Int)) = false := decide_eq_false e1
      have e3 : ¬ (2 * (i : Int) + 1 < 0) := by omega
      have e4 : decide (2 * (i : Int) + 1 < 0) = false := decide_eq_false e3
      have e5 : ¬ n ≤ 2 * i + 1 := hj
      have hid : i < d.size := by have := HZ.out; omega
      have hjd : 2 * i + 1 < d.size := by have := HZ.out; omega
      by_cases hj2 : 2 * i + 2 < n
      · have e6 : (2 * (i : Int) + 1 + 1 < (n : Int)) := by omega
        have e7 : decide (2 * (i : Int) + 1 + 1 < (n : Int)) = true := decide_eq_true e6
        have hjd2 : 2 * i + 2 < d.size := by have := HZ.out; omega
        obtain ⟨A, c, hc0, hless⟩ := HP.out.less
        have hl1 := hless (2 * i + 2) (2 * i + 1) hjd2 hjd
        have hme := method_Less p wr A d.size c hc0
        rw [show ((2 * i + 2 : Nat) : Int) = 2 * (i : Int) + 1 + 1 by omega, show ((2 * i + 1 : Nat) : Int) = 2 * (i : Int) + 1 by omega] at hl1
        clear hless hc0
        cases hr1 : ltH d[2 * i + 1]! d[2 * i + 2]! with
        | true =>
          rw [hr1] at hl1
          go_wp2_with fail
          refine hl1.mono ?_
          rintro e wa ⟨rfl, hb1⟩
          have HPa := Aside0.mk (HP.out.below hb1)
          have HFa := Aside0.mk (HF.out.trans (Fr.of_below hb1))
          have HR1 := Aside0.mk hr1
          clear hl1 hme hb1 hr1 HP HF
          have hst := sift_right (d := d) (n := n) (i := i) hj2 HR1.out
          have HQ2 := Aside0.mk (hst.symm.trans HQ.out)
          obtain ⟨A1, c1, hc1, hless1⟩ := HPa.out.less
          have hl2 := hless1 (2 * i + 2) i hjd2 hid
          have hme1 := method_Less p wa A1 d.size c1 hc1
          rw [show ((2 * i + 2 : Nat) : Int) = 2 * (i : Int) + 1 + 1 by omega] at hl2
          clear hst hless1 hc1 HQ
          cases hr2 : ltH d[i]! d[2 * i + 2]! with
          | false =>
            rw [hr2] at hl2 HQ2
            go_wp2_with fail
            refine hl2.mono ?_
            rintro e w2 ⟨rfl, hb2⟩
            have HP2 := Aside0.mk (HPa.out.below hb2)
            have HF2 := Aside0.mk (HFa.out.trans (Fr.of_below hb2))
            clear hl2 hme1 hb2 hr2
            go_wp2
            go_ret
            exact ⟨⟨_, rfl⟩, HF2.out, by rw [← HQ2.out, if_neg (by simp)]; exact HP2.out⟩
          | true =>
            rw [hr2] at hl2 HQ2
            go_wp2_with fail
            refine hl2.mono ?_
            rintro e w2 ⟨rfl, hb2⟩
            have HP2 := Aside0.mk (HPa.out.below hb2)
            have HF2 := Aside0.mk (HFa.out.trans (Fr.of_below hb2))
            obtain ⟨A2, c2, hc2, hsw⟩ := HP2.out.swap HOB.out
            have hs := hsw i (2 * i + 2) hid hjd2
            have hme2 := method_Swap p w2 A2 d.size c2 hc2
            rw [show ((2 * i + 2 : Nat) : Int) = 2 * (i : Int) + 1 + 1 by omega] at hs
            clear hl2 hme1 hb2 hr2 hsw hc2
            go_wp2_with fail
            refine hs.mono ?_
            rintro e w3 ⟨rfl, hF3, hP3⟩
            have HP3 := Aside0.mk hP3
            have HF3 := Aside0.mk (HF2.out.trans hF3)
            clear hs hme2 hF3 hP3
            go_wp2
            go_roundg (n - (2 * i + 2))
            case measure => omega
            case rel => exact ⟨2 * i + 2, Go.Sort.swp d i (2 * i + 2), congrArg (Value.int .i64) (by omega), by omega, by omega, HP3, ⟨by rw [Go.Sort.size_swp]; exact HZ.out⟩, HF3, ⟨by rw [← HQ2.out]; simp⟩⟩
        | false =>
          rw [hr1] at hl1
          go_wp2_with fail
          refine hl1.mono ?_
          rintro e wa ⟨rfl, hb1⟩
          have HPa := Aside0.mk (HP.out.below hb1)
          have HFa := Aside0.mk (HF.out.trans (Fr.of_below hb1))
          have HR1 := Aside0.mk hr1
          clear hl1 hme hb1 hr1 HP HF
          have hst := sift_left (d := d) (n := n) (i := i) (by omega) (fun _ => HR1.out)
          have HQ2 := Aside0.mk (hst.symm.trans HQ.out)
          obtain ⟨A1, c1, hc1, hless1⟩ := HPa.out.less
          have hl2 := hless1 (2 * i + 1) i hjd hid
          have hme1 := method_Less p wa A1 d.size c1 hc1
          rw [show ((2 * i + 1 : Nat) : Int) = 2 * (i : Int) + 1 by omega] at hl2
          clear hst hless1 hc1 HQ
          cases hr2 : ltH d[i]! d[2 * i + 1]! with
          | false =>
            rw [hr2] at hl2 HQ2
            go_wp2_with fail
            refine hl2.mono ?_
            rintro e w2 ⟨rfl, hb2⟩
            have HP2 := Aside0.mk (HPa.out.below hb2)
            have HF2 := Aside0.mk (HFa.out.trans (Fr.of_below hb2))
            clear hl2 hme1 hb2 hr2
            go_wp2
            go_ret
            exact ⟨⟨_, rfl⟩, HF2.out, by rw [← HQ2.out, if_neg (by simp)]; exact HP2.out⟩
          | true =>
            rw [hr2] at hl2 HQ2
            go_wp2_with fail
            refine hl2.mono ?_
            rintro e w2 ⟨rfl, hb2⟩
            have HP2 := Aside0.mk (HPa.out.below hb2)
            have HF2 := Aside0.mk (HFa.out.trans (Fr.of_below hb2))
            obtain ⟨A2, c2, hc2, hsw⟩ := HP2.out.swap HOB.out
            have hs := hsw i (2 * i + 1) hid hjd
            have hme2 := method_Swap p w2 A2 d.size c2 hc2
            rw [show ((2 * i + 1 : Nat) : Int) = 2 * (i : Int) + 1 by omega] at hs
            clear hl2 hme1 hb2 hr2 hsw hc2
            go_wp2_with fail
            refine hs.mono ?_
            rintro e w3 ⟨rfl, hF3, hP3⟩
            have HP3 := Aside0.mk hP3
            have HF3 := Aside0.mk (HF2.out.trans hF3)
            clear hs hme2 hF3 hP3
            go_wp2
            go_roundg (n - (2 * i + 1))
            case measure => omega
            case rel => exact ⟨2 * i + 1, Go.Sort.swp d i (2 * i + 1), congrArg (Value.int .i64) (by omega), by omega, by omega, HP3, ⟨by rw [Go.Sort.size_swp]; exact HZ.out⟩, HF3, ⟨by rw [← HQ2.out]; simp⟩⟩
      · have e6 : ¬ (2 * (i : Int) + 1 + 1 < (n : Int)) := by omega
        have e7 : decide (2 * (i : Int) + 1 + 1 < (n : Int)) = false := decide_eq_false e6
        have HJ2 := Aside0.mk hj2
        have hst := sift_left (d := d) (n := n) (i := i) (by omega) (fun h => absurd h HJ2.out)
        have HQ2 := Aside0.mk (hst.symm.trans HQ.out)
        obtain ⟨A1, c1, hc1, hless1⟩ := HP.out.less
        have hl2 := hless1 (2 * i + 1) i hjd hid
        have hme1 := method_Less p wr A1 d.size c1 hc1
        rw [show ((2 * i + 1 : Nat) : Int) = 2 * (i : Int) + 1 by omega] at hl2
        clear hst hless1 hc1 HQ
        cases hr2 : ltH d[i]! d[2 * i + 1]! with
        | false =>
          rw [hr2] at hl2 HQ2
          go_wp2_with fail
          refine hl2.mono ?_
          rintro e w2 ⟨rfl, hb2⟩
          have HP2 := Aside0.mk (HP.out.below hb2)
          have HF2 := Aside0.mk (HF.out.trans (Fr.of_below hb2))
          clear hl2 hme1 hb2 hr2
          go_wp2
          go_ret
          exact ⟨⟨_, rfl⟩, HF2.out, by rw [← HQ2.out, if_neg (by simp)]; exact HP2.out⟩
        | true =>
          rw [hr2] at hl2 HQ2
          go_wp2_with fail
          refine hl2.mono ?_
          rintro e w2 ⟨rfl, hb2⟩
          have HP2 := Aside0.mk (HP.out.below hb2)
          have HF2 := Aside0.mk (HF.out.trans (Fr.of_below hb2))
          obtain ⟨A2, c2, hc2, hsw⟩ := HP2.out.swap HOB.out
          have hs := hsw i (2 * i + 1) hid hjd
          have hme2 := method_Swap p w2 A2 d.size c2 hc2
          rw [show ((2 * i + 1 : Nat) : Int) = 2 * (i : Int) + 1 by omega] at hs
          clear hl2 hme1 hb2 hr2 hsw hc2
          go_wp2_with fail
          refine hs.mono ?_
          rintro e w3 ⟨rfl, hF3, hP3⟩
          have HP3 := Aside0.mk hP3
          have HF3 := Aside0.mk (HF2.out.trans hF3)
          clear hs hme2 hF3 hP3
          go_wp2
          go_roundg (n - (2 * i + 1))
          case measure => omega
          case rel => exact ⟨2 * i + 1, Go.Sort.swp d i (2 * i + 1), congrArg (Value.int .i64) (by omega), by omega, by omega, HP3, ⟨by rw [Go.Sort.size_swp]; exact HZ.out⟩, HF3, ⟨by rw [← HQ2.out]; simp⟩⟩
end Go.Proofs.Ythlelhndmnkmjaa.Pr
end
section
namespace Go.Proofs.Ythlelhndmnkmjaa.Pr
open Go.RowKit Go.Proofs.Ythlelhndmnkmjaa.Brid Go.Proofs.YthlelhndmnkmjaaW.PrintWords Go.Proofs.YthlelhndmnkmjaaW.PrintLast Go.Proofs.YthlelhndmnkmjaaW.PrintMore
set_option linter.unusedVariables false
set_option linter.unusedSimpArgs false
set_option maxHeartbeats 4000000
set_option maxRecDepth 100000
theorem up_zero {d : Array S70} : siftUp ltH d 0 = d := by rw [siftUp, dif_pos rfl]
theorem up_step {d : Array S70} {j : Nat} (h : j ≠ 0) : siftUp ltH d j = if ltH d[(j - 1) / 2]! d[j]! = true then siftUp ltH (Go.Sort.swp d ((j - 1) / 2) j) ((j - 1) / 2) else d := by
  rw [siftUp, dif_neg h]
theorem up_T (p : Nat) (O : Nat → Prop) (d0 : Array S70) (j0 : Nat) (w w0 : World) (h : HpS w w0 p O d0) (hOb : ∀ k, O k → w0.heap.size ≤ k) (hj0 : j0 < d0.size) :
    Calls Try.prog 71 #[.iface 66 (.pointer (some ⟨p, 0, none⟩)), .int .i64 j0] w fun e w' => e = .returned (.tuple #[]) ∧ Fr O w w' ∧ HpS w' w0 p O (siftUp ltH d0 j0) := by
  have HH := Aside0.mk h
  have HOB := Aside0.mk hOb
  have hsz := h.sz
  clear h hOb
  go_enter Try.func71, Try.ntmps71
  go_wp2
  go_loopg [1] (d0.size) (fun kx a wr => ∃ (j : Nat) (d : Array S70), a = .int .i64 j ∧ j < d0.size ∧ j ≤ kx ∧ Aside0 (HpS wr w0 p O d) ∧ Aside0 (d.size = d0.size) ∧ Aside0 (Fr O w wr) ∧ Aside0 (siftUp ltH d j = siftUp ltH d0 j0))
  case atStart => exact ⟨j0, d0, rfl, hj0, by omega, HH, ⟨rfl⟩, ⟨Fr.of_below (Below.refl _ _)⟩, ⟨rfl⟩⟩
  case round =>
    obtain ⟨j, d, rfl, hjn, hkx, HP, HZ, HF, HQ⟩ := hrel
    by_cases hj : j = 0
    · subst hj
      have HQ2 := Aside0.mk (up_zero.symm.trans HQ.out)
      go_wp2
      go_end0
      exact ⟨rfl, HF.out, by rw [← HQ2.out]; exact HP.out⟩
    · obtain ⟨i, hi⟩ : ∃ i, i = (j - 1) / 2 := ⟨_, rfl⟩
      have hst := up_step (d := d) hj
      rw [← hi] at hst
      have HQ2 := Aside0.mk (hst.symm.trans HQ.out)
      have hij : i < j := by omega
      have hid : i < d.size := by have := HZ.out; omega
      have hjd : j < d.size := by have := HZ.out; omega
      have hcz : ((i : Nat) : Int) = ((j : Int) - 1) / 2 := by omega
      have hj1 : (0 : Int) ≤ (j : Int) - 1 := by omega
      have hj2 : (1 : Int) ≤ (j : Int) := by omega
      have hne : ¬ (((j : Int) - 1) / 2 = (j : Int)) := by omega
      have hneb : (((j : Int) - 1) / 2 == (j : Int)) = false := beq_eq_false_iff_ne.2 hne
      have hlo : (0 : Int) ≤ ((j : Int) - 1) / 2 := by omega
      have hup : ((j : Int) - 1) / 2 ≤ 1099511627776 := by omega
      obtain ⟨A, c, hc0, hless⟩ := HP.out.less
      have hl1 := hless j i hjd hid
      have hme := method_Less p wr A d.size c hc0
      rw [hcz] at hl1
      have HCZ := Aside0.mk hcz
      clear hst hless hc0 HQ hi hcz
      cases hr : ltH d[i]! d[j]! with
      | false =>
        rw [hr] at hl1 HQ2
        go_wp2_with fail
        refine hl1.mono ?_
        rintro e w2 ⟨rfl, hb2⟩
        have HP2 := Aside0.mk (HP.out.below hb2)
        have HF2 := Aside0.mk (HF.out.trans (Fr.of_below hb2))
        clear hl1 hme hb2 hr
        go_wp2
        go_end0
        exact ⟨rfl, HF2.out, by rw [← HQ2.out, if_neg (by simp)]; exact HP2.out⟩
      | true =>
        rw [hr] at hl1 HQ2
        go_wp2_with fail
        refine hl1.mono ?_
        rintro e w2 ⟨rfl, hb2⟩
        have HP2 := Aside0.mk (HP.out.below hb2)
        have HF2 := Aside0.mk (HF.out.trans (Fr.of_below hb2))
        obtain ⟨A2, c2, hc2, hsw⟩ := HP2.out.swap HOB.out
        have hs := hsw i j hid hjd
        have hme2 := method_Swap p w2 A2 d.size c2 hc2
        rw [HCZ.out] at hs
        clear hl1 hme hb2 hr hsw hc2
        go_wp2_with fail
        refine hs.mono ?_
        rintro e w3 ⟨rfl, hF3, hP3⟩
        have HP3 := Aside0.mk hP3
        have HF3 := Aside0.mk (HF2.out.trans hF3)
        clear hs hme2 hF3 hP3
        go_wp2
        go_roundg i
        case measure => omega
        case rel => exact ⟨i, Go.Sort.swp d i j, congrArg (Value.int .i64) HCZ.out.symm, by omega, by omega, HP3, ⟨by rw [Go.Sort.size_swp]; exact HZ.out⟩, HF3, ⟨by rw [← HQ2.out]; simp⟩⟩
def heapOk (d : Array S70) : Prop := ∀ i, i < d.size → Go.Sort.Ok ltH 0 d.size d i
theorem perm_whole {d d' : Array S70} {a b : Nat} (hb : b ≤ d.size) (hab : a ≤ b) (h : Go.Sort.PermIn a b d d') : d'.toList.Perm d.toList := by
  have h1 := Go.Sort.permIn_mono d d' a b 0 d.size (Nat.zero_le _) hb (Nat.le_refl _) h
  have h2 := h1.2.2
  rw [show d.extract 0 d.size = d by simp] at h2
  rw [show d'.extract 0 d.size = d' by rw [← h.1]; simp] at h2
  exact h2
theorem takeArr {d : Array S70} {n i : Nat} (hn : n ≤ d.size) (hi : i < n) : ((d.toList.take n).toArray)[i]! = d[i]! := by
  have h1 : i < (d.toList.take n).toArray.size := by simp; omega
  rw [getElem!_pos _ i h1, getElem!_pos d i (by omega)]
  simp
theorem pop_plain {d : Array S70} {n : Nat} (hok : heapOk d) (hn : d.size = n + 1) :
    ∃ l, (Go.Sort.siftDown ltH n 0 0 (Go.Sort.swp d 0 n)).toList = l ++ [d[0]!] ∧ heapOk l.toArray ∧ (l ++ [d[0]!]).Perm d.toList := by
  have hsz : (Go.Sort.swp d 0 n).size = n + 1 := by rw [Go.Sort.size_swp, hn]
  have hs := Go.Sort.sift swoH n 0 0 n 0 (Go.Sort.swp d 0 n) (by omega) (by omega) (Nat.le_refl _) (fun i _ hi h0 k hk hkn => by
    rw [Nat.zero_add, Nat.zero_add, Go.Sort.swp_other d 0 n i h0 (by omega), Go.Sort.swp_other d 0 n k (by omega) (by omega)]
    have := hok i (by omega) k hk (by omega)
    rwa [Nat.zero_add, Nat.zero_add] at this) (fun p hp hr => by omega)
  obtain ⟨h1, h2⟩ := hs
  generalize hd1 : Go.Sort.siftDown ltH n 0 0 (Go.Sort.swp d 0 n) = d1 at *
  have hd1s : d1.size = n + 1 := by rw [h2.1, hsz]
  have hlast : d1[n]! = d[0]! := by
    rw [h2.2.1 n (.inr (by omega)), Go.Sort.swp_right d 0 n (by omega)]
  have hlist : d1.toList = d1.toList.take n ++ [d[0]!] := by
    have h3 : d1.toList.take (n + 1) = d1.toList.take n ++ [d1.toList[n]'(by simp; omega)] := List.take_succ_eq_append_getElem _
    rw [List.take_of_length_le (by simp; omega)] at h3
    rw [← hlast, bangH (by omega)]
    exact h3
  refine ⟨d1.toList.take n, hlist, fun i hi k hk hkn => ?_, ?_⟩
  · have hl : (d1.toList.take n).toArray.size = n := by simp; omega
    rw [hl] at hi hkn
    rw [Nat.zero_add, Nat.zero_add, takeArr (by omega) hi, takeArr (by omega) hkn]
    have := h1 i (Nat.zero_le _) hi k hk hkn
    rwa [Nat.zero_add, Nat.zero_add] at this
  · rw [← hlist]
    have hp1 := perm_whole (by rw [hsz]; omega) (Nat.zero_le _) h2
    have hp2 := perm_whole (d := d) (a := 0) (b := n + 1) (by omega) (Nat.zero_le _) (Go.Sort.swp_permIn d 0 (n + 1) 0 n (by omega) (by omega) (by omega) (by omega) (by omega))
    exact hp1.trans hp2
theorem head_min {d : Array S70} (hok : heapOk d) {y : S70} (hy : y ∈ d.toList) : lessH y d[0]! = false := by
  obtain ⟨i, hi, rfl⟩ := List.getElem_of_mem hy
  have hi' : i < d.size := by simpa using hi
  have := Go.Sort.root_max swoH (F := 0) hok i i (Nat.le_refl _) hi'
  rw [Nat.zero_add, Nat.zero_add, bangH hi'] at this
  exact this
theorem push_plain {d : Array S70} {x : S70} (hok : heapOk d) : heapOk (siftUp ltH (d.toList ++ [x]).toArray d.size) ∧ (siftUp ltH (d.toList ++ [x]).toArray d.size).toList.Perm (d.toList ++ [x]) ∧ (siftUp ltH (d.toList ++ [x]).toArray d.size).size = d.size + 1 := by
  have hsz : (d.toList ++ [x]).toArray.size = d.size + 1 := by simp
  have hlow : ∀ i, i < d.size → ((d.toList ++ [x]).toArray)[i]! = d[i]! := fun i hi => by
    rw [getElem!_pos _ i (by rw [hsz]; omega), getElem!_pos d i hi]
    simp [List.getElem_append, hi]
  have hs := siftUp_heap swoH (d.size + 1) d.size d.size (d.toList ++ [x]).toArray (Nat.le_refl _) (by omega) (by omega) ⟨fun i k hk hkn hkj => by
    rw [hlow i (by omega), hlow k (by omega)]
    have := hok i (by omega) k hk (by omega)
    rwa [Nat.zero_add, Nat.zero_add] at this, fun h0 c hc hcn => by omega⟩
  obtain ⟨h1, h2⟩ := hs
  have hz : (siftUp ltH (d.toList ++ [x]).toArray d.size).size = d.size + 1 := by rw [h2.1, hsz]
  refine ⟨fun i hi => by rw [hz] at hi ⊢; exact h1 i hi, ?_, hz⟩
  have := perm_whole (by rw [hsz]; exact Nat.le_refl _) (Nat.zero_le _) h2
  simpa using this
theorem init_plain (d : Array S70) : heapOk (Go.Sort.heapBuild ltH d.size 0 (d.size / 2) d) ∧ (Go.Sort.heapBuild ltH d.size 0 (d.size / 2) d).toList.Perm d.toList ∧ (Go.Sort.heapBuild ltH d.size 0 (d.size / 2) d).size = d.size := by
  obtain ⟨h1, h2⟩ := Go.Sort.build swoH d.size 0 (d.size / 2) d (by omega) (fun i h1 h2 k hk hkn => by omega)
  refine ⟨fun i hi => by rw [h2.1] at hi ⊢; exact h1 i hi, perm_whole (by omega) (Nat.zero_le _) h2, h2.1⟩
theorem sift_sizeH (n : Nat) : ∀ (m i : Nat) (d : Array S70), n - i ≤ m → (Go.Sort.siftDown ltH n 0 i d).size = d.size := by
  intro m
  induction m with
  | zero =>
    intro i d h
    rw [Go.Sort.siftDown, dif_pos (by omega)]
  | succ m ih =>
    intro i d h
    by_cases h0 : n ≤ 2 * i + 1
    · rw [sift_stop h0]
    · by_cases h1 : 2 * i + 2 < n ∧ ltH d[2 * i + 1]! d[2 * i + 2]! = true
      · rw [sift_right h1.1 h1.2]
        split
        · rw [ih _ _ (by omega), Go.Sort.size_swp]
        · rfl
      · rw [sift_left (by omega) (fun h2 => by
          cases hx : ltH d[2 * i + 1]! d[2 * i + 2]! with
          | false => rfl
          | true => exact absurd ⟨h2, hx⟩ h1)]
        split
        · rw [ih _ _ (by omega), Go.Sort.size_swp]
        · rfl
theorem HpS.len {w w0 : World} {p : Nat} {O : Nat → Prop} {d : Array S70} (h : HpS w w0 p O d) : ∃ A c, w.cell? ⟨p, 0, none⟩ = some (.slice A d.size c) := by
  obtain ⟨A, c, hp, _, _⟩ := h.wt
  exact ⟨A, c, (blk_cell hp 0).trans rfl⟩
theorem Init_T (p : Nat) (O : Nat → Prop) (d0 : Array S70) (w w0 : World) (h : HpS w w0 p O d0) (hOb : ∀ k, O k → w0.heap.size ≤ k) :
    Calls Try.prog 38 #[.iface 66 (.pointer (some ⟨p, 0, none⟩))] w fun e w' => e = .returned (.tuple #[]) ∧ Fr O w w' ∧ HpS w' w0 p O (Go.Sort.heapBuild ltH d0.size 0 (d0.size / 2) d0) := by
  have HH := Aside0.mk h
  have HOB := Aside0.mk hOb
  have hsz := h.sz
  obtain ⟨A, c, hc0⟩ := h.len
  have hme := method_Len p w A d0.size c hc0
  clear h hOb hc0
  go_enter Try.func38, Try.ntmps38
  go_wp2_with fail
  refine (LenM_T A d0.size c w).mono ?_
  rintro e w1 ⟨rfl, rfl⟩
  clear hme
  obtain ⟨n, hn⟩ : ∃ n, n = d0.size := ⟨_, rfl⟩
  rw [← hn] at hsz
  have HN := Aside0.mk hn
  have hk0 : (0 : Int) ≤ (n : Int) / 2 := by omega
  rw [← hn]
  clear hn
  go_wp2
  go_loopg [3] (n / 2) (fun kx a wr => ∃ (k : Nat) (d : Array S70), a = .int .i64 ((k : Int) - 1) ∧ k ≤ n / 2 ∧ k ≤ kx ∧ Aside0 (HpS wr w0 p O d) ∧ Aside0 (d.size = n) ∧ Aside0 (Fr O w1 wr) ∧ Aside0 (Go.Sort.heapBuild ltH n 0 k d = Go.Sort.heapBuild ltH n 0 (n / 2) d0))
  case atStart => exact ⟨n / 2, d0, congrArg (Value.int .i64) (by omega), Nat.le_refl _, Nat.le_refl _, HH, ⟨HN.out.symm⟩, ⟨Fr.of_below (Below.refl _ _)⟩, ⟨rfl⟩⟩
  case round =>
    obtain ⟨k, d, rfl, hk, hkx, HP, HZ, HF, HQ⟩ := hrel
    cases k with
    | zero =>
      have HQ2 := Aside0.mk HQ.out
      go_wp2
      go_end0
      refine ⟨rfl, HF.out, ?_⟩
      have h1 := HQ2.out
      rw [← HN.out, ← h1]
      exact HP.out
    | succ k =>
      have hd := down_T p O d k n wr w0 HP.out HOB.out (by have := HZ.out; omega) (by omega)
      have hkk : (((k + 1 : Nat) : Int) - 1) = (k : Int) := by omega
      rw [hkk]
      have hk1 : (0 : Int) ≤ (k : Int) := by omega
      clear hkk
      go_wp2_with fail
      refine hd.mono ?_
      rintro e w2 ⟨⟨r, rfl⟩, hF2, hP2⟩
      have HP2 := Aside0.mk hP2
      have HF2 := Aside0.mk (HF.out.trans hF2)
      clear hd hP2 hF2
      go_wp2
      go_roundg k
      case measure => omega
      case rel => exact ⟨k, Go.Sort.siftDown ltH n 0 k d, rfl, by omega, by omega, HP2, ⟨by rw [sift_sizeH n _ k d (Nat.le_refl _)]; exact HZ.out⟩, HF2, ⟨HQ.out⟩⟩
theorem Fr.then {O O' : Nat → Prop} {a b c : World} (h : Fr O a b) (hO : ∀ k, O' k → O k ∨ a.heap.size ≤ k) (h2 : Fr O' b c) : Fr O a c :=
  ⟨h2.os.trans h.os, h2.tape.trans h.tape, h2.output.trans h.output, Nat.le_trans h.size h2.size, fun k hk hn => by
    refine (h2.block k (Nat.lt_of_lt_of_le hk h.size) (fun hk2 => ?_)).trans (h.block k hk hn)
    rcases hO k hk2 with h3 | h3
    · exact hn h3
    · omega⟩
theorem WaitS.mono {w w0 : World} {p : Nat} {O O' : Nat → Prop} {l : List S70} (h : WaitS w w0 p O l) (hO : ∀ k, O k → O' k) (hn : ¬ O' p) : WaitS w w0 p O' l := by
  obtain ⟨A, c, hp, hR, _⟩ := h
  exact ⟨A, c, hp, Kd.R_mono hR hO, hn⟩
theorem HPop_T (p : Nat) (O : Nat → Prop) (d0 : Array S70) (x : S70) (hx : d0[0]! = x) (w w0 : World) (h : HpS w w0 p O d0) (hOb : ∀ k, O k → w0.heap.size ≤ k) (hpb : w0.heap.size ≤ p) (hok : heapOk d0) (hpos : 0 < d0.size) :
    Calls Try.prog 40 #[.iface 66 (.pointer (some ⟨p, 0, none⟩))] w fun e w' => (∃ A0 c0, e = .returned (.iface 70 (.agg #[.slice A0 x.f0.length c0, .int .i64 x.f1])) ∧ k70.K w0 x [.slice A0 x.f0.length c0, .int .i64 x.f1]) ∧ Fr (fun k => k = p ∨ O k) w w' ∧
      ∃ l, HpS w' w0 p O l.toArray ∧ heapOk l.toArray ∧ (l ++ [x]).Perm d0.toList := by
  obtain ⟨n, hn⟩ : ∃ n, d0.size = n + 1 := ⟨d0.size - 1, by omega⟩
  obtain ⟨l, hl1, hl2, hl3⟩ := pop_plain hok hn
  rw [hx] at hl1 hl3
  have HL := Aside0.mk (And.intro hl1 (And.intro hl2 hl3))
  have HOB := Aside0.mk hOb
  have HPB := Aside0.mk hpb
  have hsz := h.sz
  obtain ⟨A, c, hc0⟩ := h.len
  have hme := method_Len p w A d0.size c hc0
  obtain ⟨A2, c2, hc2, hsw⟩ := h.swap hOb
  have hs := hsw 0 n (by omega) (by omega)
  have hme2 := method_Swap p w A2 d0.size c2 hc2
  rw [hn] at hme hme2 hs hsz
  have hnn : ((n + 1 : Nat) : Int) - 1 = (n : Int) := by omega
  clear h hOb hc0 hc2 hsw hl1 hl2 hl3 hok hpos
  go_enter Try.func40, Try.ntmps40
  go_wp2_with fail
  refine (LenM_T A (n + 1) c w).mono ?_
  rintro e w1 ⟨rfl, rfl⟩
  clear hme
  go_wp2_with fail
  refine hs.mono ?_
  rintro e w2 ⟨rfl, hF2, hP2⟩
  have hd := down_T p O (Go.Sort.swp d0 0 n) 0 n w2 w0 hP2 HOB.out (by rw [Go.Sort.size_swp]; omega) (by omega)
  have HF2 := Aside0.mk hF2
  clear hs hme2 hF2 hP2
  go_wp2_with fail
  refine hd.mono ?_
  rintro e w3 ⟨⟨r, rfl⟩, hF3, hP3⟩
  have hw := hP3.wt
  rw [HL.out.1] at hw
  have hpop := PopM_T p O l x w3 w0 hw (by
    have h1 := congrArg List.length HL.out.1
    rw [List.length_append, List.length_singleton] at h1
    have h2 := hP3.sz
    have h3 : (Go.Sort.siftDown ltH n 0 0 (Go.Sort.swp d0 0 n)).toList.length = (Go.Sort.siftDown ltH n 0 0 (Go.Sort.swp d0 0 n)).size := rfl
    omega)
  have HP3 := Aside0.mk hP3
  have HF3 := Aside0.mk (HF2.out.trans hF3)
  have hme3 := method_Pop p w3
  clear hd hP3 hF3 hw
  go_wp2_with fail
  refine hpop.mono ?_
  rintro e w4 ⟨⟨A0, c0, rfl, hK⟩, hF4, hW4⟩
  have HF4 := Aside0.mk hF4
  have HW4 := Aside0.mk hW4
  have HK := Aside0.mk hK
  clear hpop hme3 hF4 hW4 hK
  go_wp2
  go_ret
  have hF5 : Fr (fun k => k = p ∨ O k) w1 w4 := (HF3.out.mono (fun k _ hk => .inr hk)).trans (HF4.out.mono (fun k _ hk => .inl hk))
  refine ⟨⟨A0, c0, rfl, HK.out⟩, hF5, l, ⟨HW4.out, below_fr HP3.out.bl HF4.out (fun k hk => by rw [hk]; exact HPB.out), fun x hx => ?_, ?_⟩, HL.out.2.1, HL.out.2.2⟩
  · refine HP3.out.good x ?_
    rw [HL.out.1]
    exact List.mem_append_left _ (by simpa using hx)
  · have h1 := congrArg List.length HL.out.1
    rw [List.length_append, List.length_singleton] at h1
    have h2 := HP3.out.sz
    have h3 : (Go.Sort.siftDown ltH n 0 0 (Go.Sort.swp d0 0 n)).toList.length = (Go.Sort.siftDown ltH n 0 0 (Go.Sort.swp d0 0 n)).size := rfl
    simp
    omega
theorem HPush_T (p : Nat) (O : Nat → Prop) (d0 : Array S70) (x : S70) (A0 : Option Addr) (c0 : Nat) (w w0 : World) (h : HpS w w0 p O d0) (hOb : ∀ k, O k → w0.heap.size ≤ k) (hpb : w0.heap.size ≤ p) (hok : heapOk d0) (hx : GoodH x) (hK : k70.K w0 x [.slice A0 x.f0.length c0, .int .i64 x.f1]) (hsz : d0.size + 1 ≤ 1099511627776) :
    Calls Try.prog 42 #[.iface 66 (.pointer (some ⟨p, 0, none⟩)), .iface 70 (.agg #[.slice A0 x.f0.length c0, .int .i64 x.f1])] w fun e w' => e = .returned (.tuple #[]) ∧ Fr (fun k => k = p ∨ O k) w w' ∧
      ∃ d, HpS w' w0 p (fun k => (O k ∨ w.heap.size ≤ k) ∧ k < w'.heap.size) d ∧ heapOk d ∧ d.toList.Perm (d0.toList ++ [x]) := by
  obtain ⟨hp1, hp2, hp3⟩ := push_plain (x := x) hok
  have HPL := Aside0.mk (And.intro hp1 (And.intro hp2 hp3))
  have HH := Aside0.mk h
  have HOB := Aside0.mk hOb
  have HPB := Aside0.mk hpb
  have HX := Aside0.mk hx
  have hpu := PushM_T p O d0.toList x A0 c0 w w0 h.wt hK h.bl (by have : d0.toList.length = d0.size := rfl; omega)
  have hme := method_Push p w
  clear h hOb hpb hok hx hK hp1 hp2 hp3
  go_enter Try.func42, Try.ntmps42
  go_wp2_with fail
  refine hpu.mono ?_
  rintro e w1 ⟨rfl, hF1, hW1⟩
  have hB1 := below_fr HH.out.bl hF1 (fun k hk => hk.elim (fun e => by rw [e]; exact HPB.out) (fun h => HOB.out k h))
  have hO1 : ∀ k, ((O k ∨ w.heap.size ≤ k) ∧ k < w1.heap.size) → w0.heap.size ≤ k := fun k hk => hk.1.elim (HOB.out k) (fun h => Nat.le_trans HH.out.bl.size h)
  have hP1 : HpS w1 w0 p (fun k => (O k ∨ w.heap.size ≤ k) ∧ k < w1.heap.size) (d0.toList ++ [x]).toArray := ⟨by simpa using hW1, hB1, fun y hy => by
    rcases List.mem_append.1 (by simpa using hy : y ∈ d0.toList ++ [x]) with h | h
    · exact HH.out.good y h
    · rw [List.mem_singleton.1 h]; exact HX.out, by simp; omega⟩
  obtain ⟨A, c, hc0⟩ := hP1.len
  rw [show (d0.toList ++ [x]).toArray.size = d0.size + 1 by simp] at hc0
  have hme2 := method_Len p w1 A (d0.size + 1) c hc0
  have hup := up_T p _ (d0.toList ++ [x]).toArray d0.size w1 w0 hP1 hO1 (by simp)
  have hnn : ((d0.size + 1 : Nat) : Int) - 1 = (d0.size : Int) := by omega
  have HF1 := Aside0.mk hF1
  clear hpu hme hF1 hW1 hB1 hO1 hP1 hc0
  go_wp2_with fail
  refine (LenM_T A (d0.size + 1) c w1).mono ?_
  rintro e w2 ⟨rfl, rfl⟩
  clear hme2
  go_wp2_with fail
  refine hup.mono ?_
  rintro e w3 ⟨rfl, hF3, hP3⟩
  have HF3 := Aside0.mk hF3
  have HP3 := Aside0.mk hP3
  clear hup hF3 hP3
  go_wp2
  go_end0
  refine ⟨rfl, ?_, _, ?_, HPL.out.1, HPL.out.2.1⟩
  · exact Fr.then HF1.out (fun k hk => hk.1.elim (fun h => .inl (.inr h)) .inr) HF3.out
  · have hpw : p < w.heap.size ∧ ¬ O p := by
      obtain ⟨_, _, hp, _, hn⟩ := HH.out.wt
      exact ⟨(Array.getElem?_eq_some_iff.1 hp).1, hn⟩
    exact ⟨HP3.out.wt.mono (fun k hk => ⟨hk.1, Nat.lt_of_lt_of_le hk.2 HF3.out.size⟩) (fun h => h.1.elim hpw.2 (fun h => by omega)), HP3.out.bl, HP3.out.good, HP3.out.sz⟩
end Go.Proofs.Ythlelhndmnkmjaa.Pr
end
