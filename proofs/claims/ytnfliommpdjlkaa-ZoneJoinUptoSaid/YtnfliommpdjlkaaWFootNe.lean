-- a text of the words that the kit's print laid, cut by slimw.py to what this seat's texts reach
import Derived.Test.YtnfliommpdjlkaaWN
namespace Go.Proofs.YtnfliommpdjlkaaW.PrintWords
open Go.RowKit
namespace Kd
section
variable {α : Type} {d : Kd α} {W : World} {g n : Nat} {S ok : Nat → Prop} {A : Option Addr} {ad : Addr} {xs : List α}
end
end Kd
end Go.Proofs.YtnfliommpdjlkaaW.PrintWords

