-- Of the words of the kit's print: those that this seat's texts name (left out of the printed text by a program of this session).
import Derived.Test.YtonjhfneeejdaaaWInv
import Derived.Test.YtonjhfneeejdaaaWFootNe
namespace Go.Proofs.YtonjhfneeejdaaaW.PrintWords
open Go.RowKit
end Go.Proofs.YtonjhfneeejdaaaW.PrintWords
namespace Go.Proofs.YtonjhfneeejdaaaW.PrintLast
section
variable {ops : Array Oper} {a : Act} {o og : Oper} {g : Nat} {t : Tmp} {u : Bool}
end
end Go.Proofs.YtonjhfneeejdaaaW.PrintLast
