-- Written by a program of this session out of the translation of the seat: Lean functions and the proofs that the Go functions come to them.
import Derived.Test.YtdddiahgkpfikaaProg
import Derived.Test.YtdddiahgkpfikaaB
import Derived.Test.YtdddiahgkpfikaaD
import Derived.Test.YtdddiahgkpfikaaK
import Derived.Test.YtdddiahgkpfikaaL
import Derived.Test.YtdddiahgkpfikaaM
import Derived.Test.YtdddiahgkpfikaaR
import Derived.Test.YtdddiahgkpfikaaT
import Derived.Test.YtdddiahgkpfikaaU
import Derived.Test.YtdddiahgkpfikaaV
import Derived.Laws.Externs
import Derived.Laws.CopyOwn
import Derived.Deep.RegionLaw
import Derived.Below
import Derived.Deep.Draws
import Derived.Deep.AppendLies
import Derived.Maps.AppendAt
import Derived.OwnWalk
import Derived.Laws.BytesArg
import Derived.Laws.MakeOwn
import Derived.Laws.OwnMore
import Derived.Deep.OwnRows
import Derived.Tactics
import Derived.Lib.ConvBytes
import Derived.Laws.Slices
import Derived.WalkKit
import Derived.KernelRfl
import Derived.RowKit3
import Derived.Deep.LoopGhost
import Derived.Deep.QuietTactic
import Derived.BigQuiet
import Derived.WideLaws
import Derived.Deep.DeepCutAuto
import Derived.Deep.CutBlock
import Derived.Deep.RegionHeld3
import Derived.Laws.Rows
import Derived.Lib.AppendStr
import Derived.ArgAppend
import Derived.Laws.IdiomCopy
import Derived.OrdersHeld
import Derived.Laws.BitsLemmas
import Derived.RowKit
import Derived.LaidEql
import Derived.Lib.IfaceEq
import Derived.Lib.IfaceNeq
import Derived.Test.YtdddiahgkpfikaaWWords
import Derived.Test.YtdddiahgkpfikaaWLast
import Derived.Test.YtdddiahgkpfikaaWTab
import Derived.Test.YtdddiahgkpfikaaWFour
import Derived.Test.YtdddiahgkpfikaaWQPut
import Derived.Test.YtdddiahgkpfikaaWApart
import Derived.Test.YtdddiahgkpfikaaWArr
import Derived.Test.YtdddiahgkpfikaaWZeros
import Derived.Test.YtdddiahgkpfikaaWFoot
import Derived.Test.YtdddiahgkpfikaaWKept
import Derived.Test.YtdddiahgkpfikaaWShare
import Derived.Test.YtdddiahgkpfikaaWN
import Derived.Test.YtdddiahgkpfikaaWFootNe
import Derived.Test.YtdddiahgkpfikaaWAt
import Derived.Test.YtdddiahgkpfikaaWEqStruct
import Derived.Test.YtdddiahgkpfikaaWRepsOne
import Derived.Test.YtdddiahgkpfikaaWInv
import Derived.Test.YtdddiahgkpfikaaWInvWords
import Derived.Test.YtdddiahgkpfikaaWGuard
import Derived.Test.YtdddiahgkpfikaaWNEv
import Derived.Test.YtdddiahgkpfikaaWMore
namespace Go.Proofs.Ytdddiahgkpfikaa.P
open Go.RowKit Go.Proofs.YtdddiahgkpfikaaW.PrintWords Go.Proofs.YtdddiahgkpfikaaW.PrintLast Go.Proofs.YtdddiahgkpfikaaW.PrintMore
attribute [local go_sem] max2_int min2_int max_two min_two max_three min_three max_four min_four   -- for this text's walks alone
set_option linter.unusedVariables false
set_option linter.unusedSimpArgs false



def errW : Option Int → Value
 | none => .nilIface
 | some c => .iface 27 (.int .i64 c)
theorem errW_none : errW none = .nilIface := rfl
theorem errW_some (c : Int) : errW (some c) = .iface 27 (.int .i64 c) := rfl

@[go_sem] theorem errEq24 (a b : Int) (w : World) : (binOp .eql 24 (.iface 27 (.int .i64 a)) (.iface 27 (.int .i64 b))).run Try.prog w = .ok (.bool (a == b)) w := Go.Lib.run_eql_iface_int w a b Try.underlying24 (by kernel_rfl) Try.underlying27
@[go_sem] theorem errNe24 (a b : Int) (w : World) : (binOp .neq 24 (.iface 27 (.int .i64 a)) (.iface 27 (.int .i64 b))).run Try.prog w = .ok (.bool (!(a == b))) w := Go.Lib.run_neq_iface_int w a b Try.underlying24 (by kernel_rfl) Try.underlying27
@[go_sem] theorem errEqN24 (b : Int) (w : World) : (binOp .eql 24 .nilIface (.iface 27 (.int .i64 b))).run Try.prog w = .ok (.bool false) w := run_eql_iface_nil_left w _ _ Try.underlying24
@[go_sem] theorem errNeN24 (b : Int) (w : World) : (binOp .neq 24 .nilIface (.iface 27 (.int .i64 b))).run Try.prog w = .ok (.bool true) w := by
 have h : ∀ d : Nat, (Op.equalIn (d + 1) 24 .nilIface (.iface 27 (.int .i64 b))).run Try.prog w = .ok false w := fun d => by simp [Op.equalIn, run_underlying Try.underlying24]
 simp only [binOp]
 simp [Op.equal, Op.maxDepth, h 9999]
@[go_sem] theorem errGd24 (op : BinOp) (x y : Operand) (d : TypeId) (u : Value) : eqGuard op 24 x y .nilIface (.iface d u) = pure () := by cases op <;> rfl
theorem info46 : (Try.prog.info? 46).map (fun i => (i.zero, i.size, i.bytes)) = some (some (.int .u64 0), 1, 8) := by kernel_rfl
-- the values' own types

end Go.Proofs.Ytdddiahgkpfikaa.P
