-- a text of the words that the kit's print laid, cut by slimw.py to what this seat's texts reach
import Derived.Test.YtnfliommpdjlkaaWWords
namespace Go.Proofs.YtnfliommpdjlkaaW.PrintWords
open Go.RowKit
section
variable {P : Program} {ops : Array Oper} {rest : List Oper} {o : Oper} {a : Act} {Q : Exit → Act → World → Prop} {W : World}
end
end Go.Proofs.YtnfliommpdjlkaaW.PrintWords

