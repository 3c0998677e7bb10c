-- Of the words of the kit's print: those that this seat's texts name (left out of the printed text by a program of this session).
import Derived.Test.YtmkfbaoglmmhjaaWInv
import Derived.Test.YtmkfbaoglmmhjaaWFootNe
namespace Go.Proofs.YtmkfbaoglmmhjaaW.PrintWords
open Go.RowKit
end Go.Proofs.YtmkfbaoglmmhjaaW.PrintWords
namespace Go.Proofs.YtmkfbaoglmmhjaaW.PrintLast
section
variable {ops : Array Oper} {a : Act} {o og : Oper} {g : Nat} {t : Tmp} {u : Bool}
end
end Go.Proofs.YtmkfbaoglmmhjaaW.PrintLast
