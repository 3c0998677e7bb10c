-- Of the words of the kit's print: those that this seat's texts name (left out of the printed text by a program of this session).
import Derived.Test.YtbfdmcjgkbpgnaaWInv
import Derived.Test.YtbfdmcjgkbpgnaaWFootNe
namespace Go.Proofs.YtbfdmcjgkbpgnaaW.PrintWords
open Go.RowKit
end Go.Proofs.YtbfdmcjgkbpgnaaW.PrintWords
namespace Go.Proofs.YtbfdmcjgkbpgnaaW.PrintLast
section
variable {ops : Array Oper} {a : Act} {o og : Oper} {g : Nat} {t : Tmp} {u : Bool}
end
end Go.Proofs.YtbfdmcjgkbpgnaaW.PrintLast
