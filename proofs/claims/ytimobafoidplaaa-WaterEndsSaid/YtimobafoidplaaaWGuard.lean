-- Of the words of the kit's print: those that this seat's texts name (left out of the printed text by a program of this session).
import Derived.Test.YtimobafoidplaaaWWords
/-! ### 58. A guarded operation whose guard is known to want it: the same goal without the guard -/
namespace Go.Proofs.YtimobafoidplaaaW.PrintWords
open Go.RowKit
section
variable {P : Program} {ops : Array Oper} {rest : List Oper} {o : Oper} {a : Act} {Q : Exit → Act → World → Prop} {W : World}
end
end Go.Proofs.YtimobafoidplaaaW.PrintWords
