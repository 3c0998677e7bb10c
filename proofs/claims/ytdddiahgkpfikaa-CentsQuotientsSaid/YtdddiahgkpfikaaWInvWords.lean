-- Of the words of the kit's print: those that this seat's texts name (left out of the printed text by a program of this session).
import Derived.Test.YtdddiahgkpfikaaWInv
import Derived.Test.YtdddiahgkpfikaaWFootNe
namespace Go.Proofs.YtdddiahgkpfikaaW.PrintWords
open Go.RowKit
end Go.Proofs.YtdddiahgkpfikaaW.PrintWords
namespace Go.Proofs.YtdddiahgkpfikaaW.PrintLast
section
variable {ops : Array Oper} {a : Act} {o og : Oper} {g : Nat} {t : Tmp} {u : Bool}
end
end Go.Proofs.YtdddiahgkpfikaaW.PrintLast
