-- Written by a program of this session out of the translation of the seat: Lean functions and the proofs that the Go functions come to them.
import Derived.Test.YtonjhfneeejdaaaProg
import Derived.Test.YtonjhfneeejdaaaB
import Derived.Test.YtonjhfneeejdaaaD
import Derived.Test.YtonjhfneeejdaaaK
import Derived.Test.YtonjhfneeejdaaaL
import Derived.Test.YtonjhfneeejdaaaM
import Derived.Test.YtonjhfneeejdaaaR
import Derived.Test.YtonjhfneeejdaaaT
import Derived.Test.YtonjhfneeejdaaaU
import Derived.Test.YtonjhfneeejdaaaV
import Derived.Laws.Externs
import Derived.Laws.CopyOwn
import Derived.Deep.RegionLaw
import Derived.Below
import Derived.Deep.Draws
import Derived.Deep.AppendLies
import Derived.Maps.AppendAt
import Derived.OwnWalk
import Derived.Laws.BytesArg
import Derived.Laws.MakeOwn
import Derived.Laws.OwnMore
import Derived.Deep.OwnRows
import Derived.Tactics
import Derived.Lib.ConvBytes
import Derived.Laws.Slices
import Derived.WalkKit
import Derived.KernelRfl
import Derived.RowKit3
import Derived.Deep.LoopGhost
import Derived.Deep.QuietTactic
import Derived.BigQuiet
import Derived.WideLaws
import Derived.Deep.DeepCutAuto
import Derived.Deep.CutBlock
import Derived.Deep.RegionHeld3
import Derived.Laws.Rows
import Derived.Lib.AppendStr
import Derived.ArgAppend
import Derived.Laws.IdiomCopy
import Derived.OrdersHeld
import Derived.Laws.BitsLemmas
import Derived.RowKit
import Derived.LaidEql
import Derived.Lib.IfaceEq
import Derived.Lib.IfaceNeq
import Derived.Test.YtonjhfneeejdaaaWWords
import Derived.Test.YtonjhfneeejdaaaWLast
import Derived.Test.YtonjhfneeejdaaaWTab
import Derived.Test.YtonjhfneeejdaaaWFour
import Derived.Test.YtonjhfneeejdaaaWQPut
import Derived.Test.YtonjhfneeejdaaaWApart
import Derived.Test.YtonjhfneeejdaaaWArr
import Derived.Test.YtonjhfneeejdaaaWZeros
import Derived.Test.YtonjhfneeejdaaaWFoot
import Derived.Test.YtonjhfneeejdaaaWKept
import Derived.Test.YtonjhfneeejdaaaWShare
import Derived.Test.YtonjhfneeejdaaaWN
import Derived.Test.YtonjhfneeejdaaaWFootNe
import Derived.Test.YtonjhfneeejdaaaWAt
import Derived.Test.YtonjhfneeejdaaaWEqStruct
import Derived.Test.YtonjhfneeejdaaaWRepsOne
import Derived.Test.YtonjhfneeejdaaaWInv
import Derived.Test.YtonjhfneeejdaaaWInvWords
import Derived.Test.YtonjhfneeejdaaaWGuard
import Derived.Test.YtonjhfneeejdaaaWNEv
import Derived.Test.YtonjhfneeejdaaaWMore
namespace Go.Proofs.Ytonjhfneeejdaaa.P
open Go.RowKit Go.Proofs.YtonjhfneeejdaaaW.PrintWords Go.Proofs.YtonjhfneeejdaaaW.PrintLast Go.Proofs.YtonjhfneeejdaaaW.PrintMore
attribute [local go_sem] max2_int min2_int max_two min_two max_three min_three max_four min_four   -- for this text's walks alone
set_option linter.unusedVariables false
set_option linter.unusedSimpArgs false



def errW : Option Int → Value
 | none => .nilIface
 | some c => .iface 30 (.int .i64 c)
theorem errW_none : errW none = .nilIface := rfl
theorem errW_some (c : Int) : errW (some c) = .iface 30 (.int .i64 c) := rfl

@[go_sem] theorem errEq26 (a b : Int) (w : World) : (binOp .eql 26 (.iface 30 (.int .i64 a)) (.iface 30 (.int .i64 b))).run Try.prog w = .ok (.bool (a == b)) w := Go.Lib.run_eql_iface_int w a b Try.underlying26 (by kernel_rfl) Try.underlying30
@[go_sem] theorem errNe26 (a b : Int) (w : World) : (binOp .neq 26 (.iface 30 (.int .i64 a)) (.iface 30 (.int .i64 b))).run Try.prog w = .ok (.bool (!(a == b))) w := Go.Lib.run_neq_iface_int w a b Try.underlying26 (by kernel_rfl) Try.underlying30
@[go_sem] theorem errEqN26 (b : Int) (w : World) : (binOp .eql 26 .nilIface (.iface 30 (.int .i64 b))).run Try.prog w = .ok (.bool false) w := run_eql_iface_nil_left w _ _ Try.underlying26
@[go_sem] theorem errNeN26 (b : Int) (w : World) : (binOp .neq 26 .nilIface (.iface 30 (.int .i64 b))).run Try.prog w = .ok (.bool true) w := by
 have h : ∀ d : Nat, (Op.equalIn (d + 1) 26 .nilIface (.iface 30 (.int .i64 b))).run Try.prog w = .ok false w := fun d => by simp [Op.equalIn, run_underlying Try.underlying26]
 simp only [binOp]
 simp [Op.equal, Op.maxDepth, h 9999]
@[go_sem] theorem errGd26 (op : BinOp) (x y : Operand) (d : TypeId) (u : Value) : eqGuard op 26 x y .nilIface (.iface d u) = pure () := by cases op <;> rfl
theorem info53 : (Try.prog.info? 53).map (fun i => (i.zero, i.size, i.bytes)) = some (some (.int .u64 0), 1, 8) := by kernel_rfl
-- the values' own types

end Go.Proofs.Ytonjhfneeejdaaa.P
