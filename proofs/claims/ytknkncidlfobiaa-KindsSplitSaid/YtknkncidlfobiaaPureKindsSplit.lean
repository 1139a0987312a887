/- The law KindsSplit: its walk, out of the contracts of what it calls. -/
import Derived.Test.YtknkncidlfobiaaRdk
import Derived.Test.YtknkncidlfobiaaPr0
import Derived.Test.YtknkncidlfobiaaPrf15
import Derived.Test.YtknkncidlfobiaaPrf16
import Derived.Test.YtknkncidlfobiaaPrf18
import Derived.Test.YtknkncidlfobiaaPrf6
import Derived.Test.YtknkncidlfobiaaThy
namespace Go.Proofs.Ytknkncidlfobiaa.Pr
open Go.RowKit Go.Proofs.Ytknkncidlfobiaa.Brid Go.Proofs.YtknkncidlfobiaaW.PrintWords Go.Proofs.YtknkncidlfobiaaW.PrintLast Go.Proofs.YtknkncidlfobiaaW.PrintMore
set_option linter.unusedVariables false
set_option linter.unusedSimpArgs false
theorem in_is (fr to_ : Bool) (ln : Bool) (li : Int) (ls : ByteArray) (hn : Bool) (hi : Int) (hs : ByteArray) (kn : Bool) (ki : Int) (ks : ByteArray) :
    kinds_In.f fr to_ ln li ls hn hi hs kn ki ks = some ((!fr || !Thy.less kn ki ks ln li ls) && (!to_ || Thy.less kn ki ks hn hi hs)) := by
  unfold kinds_In.f kinds_Compare_c.f
  simp only [Option.bind_some, Thy.cmpV_lt]
  generalize Thy.less kn ki ks ln li ls = X
  generalize Thy.less kn ki ks hn hi hs = Y
  cases fr <;> cases to_ <;> cases X <;> cases Y <;> simp
theorem KindsSplit_walk (W : World) (x0 : S29) (b0 : B29 x0 maxLen) (x1 : S23) (b1 : B23 x1 maxLen) (x2 : S23) (b2 : B23 x2 maxLen) :
    Calls Try.prog 6 #[.agg #[.bool x0.f0, .bool x0.f1, .bool x0.f2.f0, .int .i64 x0.f2.f1, .string x0.f2.f2, .bool x0.f3.f0, .int .i64 x0.f3.f1, .string x0.f3.f2], .agg #[.bool x1.f0, .int .i64 x1.f1, .string x1.f2], .agg #[.bool x2.f0, .int .i64 x2.f1, .string x2.f2]] W fun e W' => e = .returned (.bool true) ∧ Below W.heap.size W W' := by
  refine tithebarnlaw02_KindsSplit.calls 1 x0.f0 x0.f1 x0.f2.f0 x0.f2.f1 x0.f2.f2 x0.f3.f0 x0.f3.f1 x0.f3.f2 x1.f0 x1.f1 x1.f2 x2.f0 x2.f1 x2.f2 true W ?_
  unfold tithebarnlaw02_KindsSplit.f tithebarnlaw02_lives_c.f
  simp only [in_is, Option.bind_some, if_true, tithebarnlaw02_KindsSplit.j0]
  have t1 : Thy.less x2.f0 x2.f1 x2.f2 x1.f0 x1.f1 x1.f2 = true → Thy.less x1.f0 x1.f1 x1.f2 x0.f3.f0 x0.f3.f1 x0.f3.f2 = true → Thy.less x2.f0 x2.f1 x2.f2 x0.f3.f0 x0.f3.f1 x0.f3.f2 = true := Thy.less_trans
  have t2 : Thy.less x2.f0 x2.f1 x2.f2 x1.f0 x1.f1 x1.f2 = false → Thy.less x1.f0 x1.f1 x1.f2 x0.f2.f0 x0.f2.f1 x0.f2.f2 = false → Thy.less x2.f0 x2.f1 x2.f2 x0.f2.f0 x0.f2.f1 x0.f2.f2 = false := Thy.notless_trans
  generalize Thy.less x2.f0 x2.f1 x2.f2 x1.f0 x1.f1 x1.f2 = KA at t1 t2 ⊢
  generalize Thy.less x1.f0 x1.f1 x1.f2 x0.f3.f0 x0.f3.f1 x0.f3.f2 = AH at t1 ⊢
  generalize Thy.less x2.f0 x2.f1 x2.f2 x0.f3.f0 x0.f3.f1 x0.f3.f2 = KH at t1 ⊢
  generalize Thy.less x1.f0 x1.f1 x1.f2 x0.f2.f0 x0.f2.f1 x0.f2.f2 = AL at t2 ⊢
  generalize Thy.less x2.f0 x2.f1 x2.f2 x0.f2.f0 x0.f2.f1 x0.f2.f2 = KL at t2 ⊢
  cases x0.f0 <;> cases x0.f1 <;> cases KA <;> cases AH <;> cases KH <;> cases AL <;> cases KL <;> simp_all

end Go.Proofs.Ytknkncidlfobiaa.Pr
