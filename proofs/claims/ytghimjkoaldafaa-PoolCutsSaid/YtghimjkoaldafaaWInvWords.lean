-- Of the words of the kit's print: those that this seat's texts name (left out of the printed text by a program of this session).
import Derived.Test.YtghimjkoaldafaaWInv
import Derived.Test.YtghimjkoaldafaaWFootNe
namespace Go.Proofs.YtghimjkoaldafaaW.PrintWords
open Go.RowKit
end Go.Proofs.YtghimjkoaldafaaW.PrintWords
namespace Go.Proofs.YtghimjkoaldafaaW.PrintLast
section
variable {ops : Array Oper} {a : Act} {o og : Oper} {g : Nat} {t : Tmp} {u : Bool}
end
end Go.Proofs.YtghimjkoaldafaaW.PrintLast
