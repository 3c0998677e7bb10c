-- Of the words of the kit's print: those that this seat's texts name (left out of the printed text by a program of this session).
import Derived.Test.YtimobafoidplaaaWInv
import Derived.Test.YtimobafoidplaaaWFootNe
namespace Go.Proofs.YtimobafoidplaaaW.PrintWords
open Go.RowKit
end Go.Proofs.YtimobafoidplaaaW.PrintWords
namespace Go.Proofs.YtimobafoidplaaaW.PrintLast
section
variable {ops : Array Oper} {a : Act} {o og : Oper} {g : Nat} {t : Tmp} {u : Bool}
end
end Go.Proofs.YtimobafoidplaaaW.PrintLast
