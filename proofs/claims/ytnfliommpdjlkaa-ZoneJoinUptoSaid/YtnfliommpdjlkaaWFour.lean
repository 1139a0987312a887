-- a text of the words that the kit's print laid, cut by slimw.py to what this seat's texts reach
import Derived.Test.YtnfliommpdjlkaaWTab
namespace Go.Proofs.YtnfliommpdjlkaaW.PrintLast
section
variable {P : Program} {ops : Array Oper} {Q : Exit → Act → World → Prop} {md : Region.Mode} {S : World → Prop} {ds : List Nat} {T : Bool × List (List Nat × List Nat)}
end
end Go.Proofs.YtnfliommpdjlkaaW.PrintLast

