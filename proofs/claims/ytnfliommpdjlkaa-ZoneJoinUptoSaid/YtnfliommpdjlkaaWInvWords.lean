-- a text of the words that the kit's print laid, cut by slimw.py to what this seat's texts reach
import Derived.Test.YtnfliommpdjlkaaWInv
import Derived.Test.YtnfliommpdjlkaaWFootNe
namespace Go.Proofs.YtnfliommpdjlkaaW.PrintWords
open Go.RowKit
end Go.Proofs.YtnfliommpdjlkaaW.PrintWords
namespace Go.Proofs.YtnfliommpdjlkaaW.PrintLast
section
variable {ops : Array Oper} {a : Act} {o og : Oper} {g : Nat} {t : Tmp} {u : Bool}
end
end Go.Proofs.YtnfliommpdjlkaaW.PrintLast

