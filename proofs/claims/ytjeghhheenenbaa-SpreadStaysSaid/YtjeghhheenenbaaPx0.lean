-- Written by a program of this session out of the translation of the seat: Lean functions and the proofs that the Go functions come to them.
import Derived.Test.YtjeghhheenenbaaProg
import Derived.Test.YtjeghhheenenbaaB
import Derived.Test.YtjeghhheenenbaaD
import Derived.Test.YtjeghhheenenbaaK
import Derived.Test.YtjeghhheenenbaaL
import Derived.Test.YtjeghhheenenbaaM
import Derived.Test.YtjeghhheenenbaaR
import Derived.Test.YtjeghhheenenbaaT
import Derived.Test.YtjeghhheenenbaaU
import Derived.Test.YtjeghhheenenbaaV
import Derived.Test.YtjeghhheenenbaaSta
import Derived.Laws.Externs
import Derived.Laws.CopyOwn
import Derived.Deep.RegionLaw
import Derived.Below
import Derived.Deep.Draws
import Derived.Deep.AppendLies
import Derived.Maps.AppendAt
import Derived.OwnWalk
import Derived.Laws.BytesArg
import Derived.Laws.MakeOwn
import Derived.Laws.OwnMore
import Derived.Deep.OwnRows
import Derived.Tactics
import Derived.Lib.ConvBytes
import Derived.Laws.Slices
import Derived.WalkKit
import Derived.KernelRfl
import Derived.RowKit3
import Derived.Deep.LoopGhost
import Derived.Deep.QuietTactic
import Derived.BigQuiet
import Derived.WideLaws
import Derived.Deep.DeepCutAuto
import Derived.Deep.CutBlock
import Derived.Deep.RegionHeld3
import Derived.Laws.Rows
import Derived.Lib.AppendStr
import Derived.ArgAppend
import Derived.Laws.IdiomCopy
import Derived.OrdersHeld
import Derived.Laws.BitsLemmas
import Derived.RowKit
import Derived.LaidEql
import Derived.Lib.IfaceEq
import Derived.Lib.IfaceNeq
import Derived.Test.YtjeghhheenenbaaWWords
import Derived.Test.YtjeghhheenenbaaWLast
import Derived.Test.YtjeghhheenenbaaWTab
import Derived.Test.YtjeghhheenenbaaWFour
import Derived.Test.YtjeghhheenenbaaWQPut
import Derived.Test.YtjeghhheenenbaaWApart
import Derived.Test.YtjeghhheenenbaaWArr
import Derived.Test.YtjeghhheenenbaaWZeros
import Derived.Test.YtjeghhheenenbaaWFoot
import Derived.Test.YtjeghhheenenbaaWKept
import Derived.Test.YtjeghhheenenbaaWShare
import Derived.Test.YtjeghhheenenbaaWN
import Derived.Test.YtjeghhheenenbaaWFootNe
import Derived.Test.YtjeghhheenenbaaWAt
import Derived.Test.YtjeghhheenenbaaWEqStruct
import Derived.Test.YtjeghhheenenbaaWRepsOne
import Derived.Test.YtjeghhheenenbaaWInv
import Derived.Test.YtjeghhheenenbaaWInvWords
import Derived.Test.YtjeghhheenenbaaWGuard
import Derived.Test.YtjeghhheenenbaaWNEv
import Derived.Test.YtjeghhheenenbaaWMore
namespace Go.Proofs.Ytjeghhheenenbaa.P
open Go.RowKit Go.Proofs.YtjeghhheenenbaaW.PrintWords Go.Proofs.YtjeghhheenenbaaW.PrintLast Go.Proofs.YtjeghhheenenbaaW.PrintMore
attribute [local go_sem] max2_int min2_int max_two min_two max_three min_three max_four min_four   -- for this text's walks alone
set_option linter.unusedVariables false
set_option linter.unusedSimpArgs false



def errW : Option Int → Value
 | none => .nilIface
 | some c => .iface 34 (.int .i64 c)
theorem errW_none : errW none = .nilIface := rfl
theorem errW_some (c : Int) : errW (some c) = .iface 34 (.int .i64 c) := rfl

@[go_sem] theorem errEq29 (a b : Int) (w : World) : (binOp .eql 29 (.iface 34 (.int .i64 a)) (.iface 34 (.int .i64 b))).run Try.prog w = .ok (.bool (a == b)) w := Go.Lib.run_eql_iface_int w a b Try.underlying29 (by kernel_rfl) Try.underlying34
@[go_sem] theorem errNe29 (a b : Int) (w : World) : (binOp .neq 29 (.iface 34 (.int .i64 a)) (.iface 34 (.int .i64 b))).run Try.prog w = .ok (.bool (!(a == b))) w := Go.Lib.run_neq_iface_int w a b Try.underlying29 (by kernel_rfl) Try.underlying34
@[go_sem] theorem errEqN29 (b : Int) (w : World) : (binOp .eql 29 .nilIface (.iface 34 (.int .i64 b))).run Try.prog w = .ok (.bool false) w := run_eql_iface_nil_left w _ _ Try.underlying29
@[go_sem] theorem errNeN29 (b : Int) (w : World) : (binOp .neq 29 .nilIface (.iface 34 (.int .i64 b))).run Try.prog w = .ok (.bool true) w := by
 have h : ∀ d : Nat, (Op.equalIn (d + 1) 29 .nilIface (.iface 34 (.int .i64 b))).run Try.prog w = .ok false w := fun d => by simp [Op.equalIn, run_underlying Try.underlying29]
 simp only [binOp]
 simp [Op.equal, Op.maxDepth, h 9999]
@[go_sem] theorem errGd29 (op : BinOp) (x y : Operand) (d : TypeId) (u : Value) : eqGuard op 29 x y .nilIface (.iface d u) = pure () := by cases op <;> rfl
theorem info2 : (Try.prog.info? 2).map (fun i => (i.zero, i.size, i.bytes)) = some (some (.int .i64 0), 1, 8) := by kernel_rfl
theorem info3 : (Try.prog.info? 3).map (fun i => (i.zero, i.size, i.bytes)) = some (some (.int .i64 0), 1, 8) := by kernel_rfl
theorem info46 : (Try.prog.info? 46).map (fun i => (i.zero, i.size, i.bytes)) = some (some (.int .u64 0), 1, 8) := by kernel_rfl
-- the values' own types

end Go.Proofs.Ytjeghhheenenbaa.P
