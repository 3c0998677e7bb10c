-- Written by a program of this session out of the translation of the seat: Lean functions and the proofs that the Go functions come to them.
import Derived.Test.YtcpmfdagnchlbaaProg
import Derived.Test.YtcpmfdagnchlbaaB
import Derived.Test.YtcpmfdagnchlbaaD
import Derived.Test.YtcpmfdagnchlbaaK
import Derived.Test.YtcpmfdagnchlbaaL
import Derived.Test.YtcpmfdagnchlbaaM
import Derived.Test.YtcpmfdagnchlbaaR
import Derived.Test.YtcpmfdagnchlbaaT
import Derived.Test.YtcpmfdagnchlbaaU
import Derived.Test.YtcpmfdagnchlbaaV
import Derived.Test.YtcpmfdagnchlbaaSta
import Derived.Laws.Externs
import Derived.Laws.CopyOwn
import Derived.Deep.RegionLaw
import Derived.Below
import Derived.Deep.Draws
import Derived.Deep.AppendLies
import Derived.Maps.AppendAt
import Derived.OwnWalk
import Derived.Laws.BytesArg
import Derived.Laws.MakeOwn
import Derived.Laws.OwnMore
import Derived.Deep.OwnRows
import Derived.Tactics
import Derived.Lib.ConvBytes
import Derived.Laws.Slices
import Derived.WalkKit
import Derived.KernelRfl
import Derived.RowKit3
import Derived.Deep.LoopGhost
import Derived.Deep.QuietTactic
import Derived.BigQuiet
import Derived.WideLaws
import Derived.Deep.DeepCutAuto
import Derived.Deep.CutBlock
import Derived.Deep.RegionHeld3
import Derived.Laws.Rows
import Derived.Lib.AppendStr
import Derived.ArgAppend
import Derived.Laws.IdiomCopy
import Derived.OrdersHeld
import Derived.Laws.BitsLemmas
import Derived.RowKit
import Derived.LaidEql
import Derived.Lib.IfaceEq
import Derived.Lib.IfaceNeq
import Derived.Test.YtcpmfdagnchlbaaWWords
import Derived.Test.YtcpmfdagnchlbaaWLast
import Derived.Test.YtcpmfdagnchlbaaWTab
import Derived.Test.YtcpmfdagnchlbaaWFour
import Derived.Test.YtcpmfdagnchlbaaWQPut
import Derived.Test.YtcpmfdagnchlbaaWApart
import Derived.Test.YtcpmfdagnchlbaaWArr
import Derived.Test.YtcpmfdagnchlbaaWZeros
import Derived.Test.YtcpmfdagnchlbaaWFoot
import Derived.Test.YtcpmfdagnchlbaaWKept
import Derived.Test.YtcpmfdagnchlbaaWShare
import Derived.Test.YtcpmfdagnchlbaaWN
import Derived.Test.YtcpmfdagnchlbaaWFootNe
import Derived.Test.YtcpmfdagnchlbaaWAt
import Derived.Test.YtcpmfdagnchlbaaWEqStruct
import Derived.Test.YtcpmfdagnchlbaaWRepsOne
import Derived.Test.YtcpmfdagnchlbaaWInv
import Derived.Test.YtcpmfdagnchlbaaWInvWords
import Derived.Test.YtcpmfdagnchlbaaWGuard
import Derived.Test.YtcpmfdagnchlbaaWNEv
import Derived.Test.YtcpmfdagnchlbaaWMore
namespace Go.Proofs.Ytcpmfdagnchlbaa.P
open Go.RowKit Go.Proofs.YtcpmfdagnchlbaaW.PrintWords Go.Proofs.YtcpmfdagnchlbaaW.PrintLast Go.Proofs.YtcpmfdagnchlbaaW.PrintMore
attribute [local go_sem] max2_int min2_int max_two min_two max_three min_three max_four min_four   -- for this text's walks alone
set_option linter.unusedVariables false
set_option linter.unusedSimpArgs false



def errW : Option Int → Value
 | none => .nilIface
 | some c => .iface 29 (.int .i64 c)
theorem errW_none : errW none = .nilIface := rfl
theorem errW_some (c : Int) : errW (some c) = .iface 29 (.int .i64 c) := rfl

@[go_sem] theorem errEq25 (a b : Int) (w : World) : (binOp .eql 25 (.iface 29 (.int .i64 a)) (.iface 29 (.int .i64 b))).run Try.prog w = .ok (.bool (a == b)) w := Go.Lib.run_eql_iface_int w a b Try.underlying25 (by kernel_rfl) Try.underlying29
@[go_sem] theorem errNe25 (a b : Int) (w : World) : (binOp .neq 25 (.iface 29 (.int .i64 a)) (.iface 29 (.int .i64 b))).run Try.prog w = .ok (.bool (!(a == b))) w := Go.Lib.run_neq_iface_int w a b Try.underlying25 (by kernel_rfl) Try.underlying29
@[go_sem] theorem errEqN25 (b : Int) (w : World) : (binOp .eql 25 .nilIface (.iface 29 (.int .i64 b))).run Try.prog w = .ok (.bool false) w := run_eql_iface_nil_left w _ _ Try.underlying25
@[go_sem] theorem errNeN25 (b : Int) (w : World) : (binOp .neq 25 .nilIface (.iface 29 (.int .i64 b))).run Try.prog w = .ok (.bool true) w := by
 have h : ∀ d : Nat, (Op.equalIn (d + 1) 25 .nilIface (.iface 29 (.int .i64 b))).run Try.prog w = .ok false w := fun d => by simp [Op.equalIn, run_underlying Try.underlying25]
 simp only [binOp]
 simp [Op.equal, Op.maxDepth, h 9999]
@[go_sem] theorem errGd25 (op : BinOp) (x y : Operand) (d : TypeId) (u : Value) : eqGuard op 25 x y .nilIface (.iface d u) = pure () := by cases op <;> rfl
theorem info2 : (Try.prog.info? 2).map (fun i => (i.zero, i.size, i.bytes)) = some (some (.int .i64 0), 1, 8) := by kernel_rfl
theorem info3 : (Try.prog.info? 3).map (fun i => (i.zero, i.size, i.bytes)) = some (some (.int .i64 0), 1, 8) := by kernel_rfl
theorem info42 : (Try.prog.info? 42).map (fun i => (i.zero, i.size, i.bytes)) = some (some (.int .u64 0), 1, 8) := by kernel_rfl
-- the values' own types

end Go.Proofs.Ytcpmfdagnchlbaa.P
