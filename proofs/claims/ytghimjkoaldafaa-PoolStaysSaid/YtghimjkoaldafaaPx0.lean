-- Written by a program of this session out of the translation of the seat: Lean functions and the proofs that the Go functions come to them.
import Derived.Test.YtghimjkoaldafaaProg
import Derived.Test.YtghimjkoaldafaaB
import Derived.Test.YtghimjkoaldafaaD
import Derived.Test.YtghimjkoaldafaaK
import Derived.Test.YtghimjkoaldafaaL
import Derived.Test.YtghimjkoaldafaaM
import Derived.Test.YtghimjkoaldafaaR
import Derived.Test.YtghimjkoaldafaaT
import Derived.Test.YtghimjkoaldafaaU
import Derived.Test.YtghimjkoaldafaaV
import Derived.Test.YtghimjkoaldafaaSta
import Derived.Laws.Externs
import Derived.Below
import Derived.Deep.Draws
import Derived.Deep.AppendLies
import Derived.Maps.AppendAt
import Derived.OwnWalk
import Derived.Laws.BytesArg
import Derived.Laws.MakeOwn
import Derived.Laws.OwnMore
import Derived.Deep.OwnRows
import Derived.Tactics
import Derived.Lib.ConvBytes
import Derived.Laws.Slices
import Derived.WalkKit
import Derived.KernelRfl
import Derived.RowKit3
import Derived.Deep.LoopGhost
import Derived.Deep.QuietTactic
import Derived.BigQuiet
import Derived.WideLaws
import Derived.Deep.DeepCutAuto
import Derived.Deep.CutBlock
import Derived.Deep.RegionHeld3
import Derived.Laws.Rows
import Derived.Lib.AppendStr
import Derived.ArgAppend
import Derived.Laws.IdiomCopy
import Derived.OrdersHeld
import Derived.Laws.BitsLemmas
import Derived.RowKit
import Derived.LaidEql
import Derived.Lib.IfaceEq
import Derived.Lib.IfaceNeq
import Derived.Test.YtghimjkoaldafaaWWords
import Derived.Test.YtghimjkoaldafaaWLast
import Derived.Test.YtghimjkoaldafaaWTab
import Derived.Test.YtghimjkoaldafaaWFour
import Derived.Test.YtghimjkoaldafaaWQPut
import Derived.Test.YtghimjkoaldafaaWApart
import Derived.Test.YtghimjkoaldafaaWArr
import Derived.Test.YtghimjkoaldafaaWZeros
import Derived.Test.YtghimjkoaldafaaWFoot
import Derived.Test.YtghimjkoaldafaaWKept
import Derived.Test.YtghimjkoaldafaaWShare
import Derived.Test.YtghimjkoaldafaaWN
import Derived.Test.YtghimjkoaldafaaWFootNe
import Derived.Test.YtghimjkoaldafaaWAt
import Derived.Test.YtghimjkoaldafaaWEqStruct
import Derived.Test.YtghimjkoaldafaaWRepsOne
import Derived.Test.YtghimjkoaldafaaWInv
import Derived.Test.YtghimjkoaldafaaWInvWords
import Derived.Test.YtghimjkoaldafaaWGuard
import Derived.Test.YtghimjkoaldafaaWNEv
import Derived.Test.YtghimjkoaldafaaWMore
namespace Go.Proofs.Ytghimjkoaldafaa.P
open Go.RowKit Go.Proofs.YtghimjkoaldafaaW.PrintWords Go.Proofs.YtghimjkoaldafaaW.PrintLast Go.Proofs.YtghimjkoaldafaaW.PrintMore
attribute [local go_sem] max2_int min2_int max_two min_two max_three min_three max_four min_four   -- for this text's walks alone
set_option linter.unusedVariables false
set_option linter.unusedSimpArgs false



def errW : Option Int → Value
 | none => .nilIface
 | some c => .iface 29 (.int .i64 c)
theorem errW_none : errW none = .nilIface := rfl
theorem errW_some (c : Int) : errW (some c) = .iface 29 (.int .i64 c) := rfl

@[go_sem] theorem errEq24 (a b : Int) (w : World) : (binOp .eql 24 (.iface 29 (.int .i64 a)) (.iface 29 (.int .i64 b))).run Try.prog w = .ok (.bool (a == b)) w := Go.Lib.run_eql_iface_int w a b Try.underlying24 (by kernel_rfl) Try.underlying29
@[go_sem] theorem errNe24 (a b : Int) (w : World) : (binOp .neq 24 (.iface 29 (.int .i64 a)) (.iface 29 (.int .i64 b))).run Try.prog w = .ok (.bool (!(a == b))) w := Go.Lib.run_neq_iface_int w a b Try.underlying24 (by kernel_rfl) Try.underlying29
@[go_sem] theorem errEqN24 (b : Int) (w : World) : (binOp .eql 24 .nilIface (.iface 29 (.int .i64 b))).run Try.prog w = .ok (.bool false) w := run_eql_iface_nil_left w _ _ Try.underlying24
@[go_sem] theorem errNeN24 (b : Int) (w : World) : (binOp .neq 24 .nilIface (.iface 29 (.int .i64 b))).run Try.prog w = .ok (.bool true) w := by
 have h : ∀ d : Nat, (Op.equalIn (d + 1) 24 .nilIface (.iface 29 (.int .i64 b))).run Try.prog w = .ok false w := fun d => by simp [Op.equalIn, run_underlying Try.underlying24]
 simp only [binOp]
 simp [Op.equal, Op.maxDepth, h 9999]
@[go_sem] theorem errGd24 (op : BinOp) (x y : Operand) (d : TypeId) (u : Value) : eqGuard op 24 x y .nilIface (.iface d u) = pure () := by cases op <;> rfl
theorem info2 : (Try.prog.info? 2).map (fun i => (i.zero, i.size, i.bytes)) = some (some (.int .i64 0), 1, 8) := by kernel_rfl
theorem info3 : (Try.prog.info? 3).map (fun i => (i.zero, i.size, i.bytes)) = some (some (.int .i64 0), 1, 8) := by kernel_rfl
theorem info60 : (Try.prog.info? 60).map (fun i => (i.zero, i.size, i.bytes)) = some (some (.int .u64 0), 1, 8) := by kernel_rfl
-- the values' own types

end Go.Proofs.Ytghimjkoaldafaa.P
