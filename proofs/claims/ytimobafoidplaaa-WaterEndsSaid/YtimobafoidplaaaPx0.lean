-- Written by a program of this session out of the translation of the seat: Lean functions and the proofs that the Go functions come to them.
import Derived.Test.YtimobafoidplaaaProg
import Derived.Test.YtimobafoidplaaaB
import Derived.Test.YtimobafoidplaaaD
import Derived.Test.YtimobafoidplaaaK
import Derived.Test.YtimobafoidplaaaL
import Derived.Test.YtimobafoidplaaaM
import Derived.Test.YtimobafoidplaaaR
import Derived.Test.YtimobafoidplaaaT
import Derived.Test.YtimobafoidplaaaU
import Derived.Test.YtimobafoidplaaaV
import Derived.Below
import Derived.Deep.Draws
import Derived.Deep.AppendLies
import Derived.Maps.AppendAt
import Derived.OwnWalk
import Derived.Laws.BytesArg
import Derived.Laws.MakeOwn
import Derived.Laws.OwnMore
import Derived.Deep.OwnRows
import Derived.Tactics
import Derived.Lib.ConvBytes
import Derived.Laws.Slices
import Derived.WalkKit
import Derived.KernelRfl
import Derived.RowKit3
import Derived.Deep.LoopGhost
import Derived.Deep.QuietTactic
import Derived.BigQuiet
import Derived.WideLaws
import Derived.Deep.DeepCutAuto
import Derived.Deep.CutBlock
import Derived.Deep.RegionHeld3
import Derived.Laws.Rows
import Derived.Lib.AppendStr
import Derived.ArgAppend
import Derived.Laws.IdiomCopy
import Derived.OrdersHeld
import Derived.Laws.BitsLemmas
import Derived.RowKit
import Derived.LaidEql
import Derived.Lib.IfaceEq
import Derived.Lib.IfaceNeq
import Derived.Test.YtimobafoidplaaaWWords
import Derived.Test.YtimobafoidplaaaWLast
import Derived.Test.YtimobafoidplaaaWTab
import Derived.Test.YtimobafoidplaaaWFour
import Derived.Test.YtimobafoidplaaaWQPut
import Derived.Test.YtimobafoidplaaaWApart
import Derived.Test.YtimobafoidplaaaWArr
import Derived.Test.YtimobafoidplaaaWZeros
import Derived.Test.YtimobafoidplaaaWFoot
import Derived.Test.YtimobafoidplaaaWKept
import Derived.Test.YtimobafoidplaaaWShare
import Derived.Test.YtimobafoidplaaaWN
import Derived.Test.YtimobafoidplaaaWFootNe
import Derived.Test.YtimobafoidplaaaWAt
import Derived.Test.YtimobafoidplaaaWEqStruct
import Derived.Test.YtimobafoidplaaaWRepsOne
import Derived.Test.YtimobafoidplaaaWInv
import Derived.Test.YtimobafoidplaaaWInvWords
import Derived.Test.YtimobafoidplaaaWGuard
import Derived.Test.YtimobafoidplaaaWNEv
import Derived.Test.YtimobafoidplaaaWMore
namespace Go.Proofs.Ytimobafoidplaaa.P
open Go.RowKit Go.Proofs.YtimobafoidplaaaW.PrintWords Go.Proofs.YtimobafoidplaaaW.PrintLast Go.Proofs.YtimobafoidplaaaW.PrintMore
attribute [local go_sem] max2_int min2_int max_two min_two max_three min_three max_four min_four   -- for this text's walks alone
set_option linter.unusedVariables false
set_option linter.unusedSimpArgs false



def errW : Option Int → Value
 | none => .nilIface
 | some c => .iface 34 (.int .i64 c)
theorem errW_none : errW none = .nilIface := rfl
theorem errW_some (c : Int) : errW (some c) = .iface 34 (.int .i64 c) := rfl

@[go_sem] theorem errEq30 (a b : Int) (w : World) : (binOp .eql 30 (.iface 34 (.int .i64 a)) (.iface 34 (.int .i64 b))).run Try.prog w = .ok (.bool (a == b)) w := Go.Lib.run_eql_iface_int w a b Try.underlying30 (by kernel_rfl) Try.underlying34
@[go_sem] theorem errNe30 (a b : Int) (w : World) : (binOp .neq 30 (.iface 34 (.int .i64 a)) (.iface 34 (.int .i64 b))).run Try.prog w = .ok (.bool (!(a == b))) w := Go.Lib.run_neq_iface_int w a b Try.underlying30 (by kernel_rfl) Try.underlying34
@[go_sem] theorem errEqN30 (b : Int) (w : World) : (binOp .eql 30 .nilIface (.iface 34 (.int .i64 b))).run Try.prog w = .ok (.bool false) w := run_eql_iface_nil_left w _ _ Try.underlying30
@[go_sem] theorem errNeN30 (b : Int) (w : World) : (binOp .neq 30 .nilIface (.iface 34 (.int .i64 b))).run Try.prog w = .ok (.bool true) w := by
 have h : ∀ d : Nat, (Op.equalIn (d + 1) 30 .nilIface (.iface 34 (.int .i64 b))).run Try.prog w = .ok false w := fun d => by simp [Op.equalIn, run_underlying Try.underlying30]
 simp only [binOp]
 simp [Op.equal, Op.maxDepth, h 9999]
@[go_sem] theorem errGd30 (op : BinOp) (x y : Operand) (d : TypeId) (u : Value) : eqGuard op 30 x y .nilIface (.iface d u) = pure () := by cases op <;> rfl
-- the values' own types

end Go.Proofs.Ytimobafoidplaaa.P
