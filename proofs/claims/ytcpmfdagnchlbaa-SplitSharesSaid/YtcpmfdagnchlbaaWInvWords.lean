-- Of the words of the kit's print: those that this seat's texts name (left out of the printed text by a program of this session).
import Derived.Test.YtcpmfdagnchlbaaWInv
import Derived.Test.YtcpmfdagnchlbaaWFootNe
namespace Go.Proofs.YtcpmfdagnchlbaaW.PrintWords
open Go.RowKit
end Go.Proofs.YtcpmfdagnchlbaaW.PrintWords
namespace Go.Proofs.YtcpmfdagnchlbaaW.PrintLast
section
variable {ops : Array Oper} {a : Act} {o og : Oper} {g : Nat} {t : Tmp} {u : Bool}
end
end Go.Proofs.YtcpmfdagnchlbaaW.PrintLast
