-- Of the words of the kit's print: those that this seat's texts name (left out of the printed text by a program of this session).
import Derived.Test.YtghimjkoaldafaaWN
/-! ### 52. A row that stays read whatever happens to a block (a set of blocks) doesn't lie there -/
namespace Go.Proofs.YtghimjkoaldafaaW.PrintWords
open Go.RowKit
namespace Kd
section
variable {α : Type} {d : Kd α} {W : World} {g n : Nat} {S ok : Nat → Prop} {A : Option Addr} {ad : Addr} {xs : List α}
end
end Kd
end Go.Proofs.YtghimjkoaldafaaW.PrintWords
