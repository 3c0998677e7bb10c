-- Of the words of the kit's print: those that this seat's texts name (left out of the printed text by a program of this session).
import Derived.Test.YtinpdbimbnhpoaaWInv
import Derived.Test.YtinpdbimbnhpoaaWFootNe
namespace Go.Proofs.YtinpdbimbnhpoaaW.PrintWords
open Go.RowKit
end Go.Proofs.YtinpdbimbnhpoaaW.PrintWords
namespace Go.Proofs.YtinpdbimbnhpoaaW.PrintLast
section
variable {ops : Array Oper} {a : Act} {o og : Oper} {g : Nat} {t : Tmp} {u : Bool}
end
end Go.Proofs.YtinpdbimbnhpoaaW.PrintLast
