-- Written by a program of this session out of the translation of the seat: Lean functions and the proofs that the Go functions come to them.
import Derived.Test.YtbbhdlbpefibeaaGreatDoorProg
import Derived.Test.YtbbhdlbpefibeaaGreatDoorB
import Derived.Test.YtbbhdlbpefibeaaGreatDoorD
import Derived.Test.YtbbhdlbpefibeaaGreatDoorK
import Derived.Test.YtbbhdlbpefibeaaGreatDoorM
import Derived.Laws.Externs
import Derived.Laws.CopyOwn
import Derived.Deep.RegionLaw
import Derived.Below
import Derived.Deep.Draws
import Derived.Deep.AppendLies
import Derived.Maps.AppendAt
import Derived.OwnWalk
import Derived.Laws.BytesArg
import Derived.Laws.MakeOwn
import Derived.Laws.OwnMore
import Derived.Deep.OwnRows
import Derived.Tactics
import Derived.Lib.ConvBytes
import Derived.Laws.Slices
import Derived.WalkKit
import Derived.KernelRfl
import Derived.RowKit3
import Derived.Deep.LoopGhost
import Derived.Deep.QuietTactic
import Derived.BigQuiet
import Derived.WideLaws
import Derived.Deep.DeepCutAuto
import Derived.Deep.CutBlock
import Derived.Deep.RegionHeld3
import Derived.Laws.Rows
import Derived.Lib.AppendStr
import Derived.ArgAppend
import Derived.Laws.IdiomCopy
import Derived.OrdersHeld
import Derived.Laws.BitsLemmas
import Derived.RowKit
import Derived.LaidEql
import Derived.Lib.IfaceEq
import Derived.Lib.IfaceNeq
import Derived.Maps.OwnSet
import Derived.Maps.RangeWalk
import Derived.Shelf.SlMaps.Clone
import Derived.Carry
import Derived.WalkSpells
import Derived.Lib.SliceRun
import Derived.Test.YtbbhdlbpefibeaaGreatDoorWWords
import Derived.Test.YtbbhdlbpefibeaaGreatDoorWLast
import Derived.Test.YtbbhdlbpefibeaaGreatDoorWTab
import Derived.Test.YtbbhdlbpefibeaaGreatDoorWFour
import Derived.Test.YtbbhdlbpefibeaaGreatDoorWQPut
import Derived.Test.YtbbhdlbpefibeaaGreatDoorWApart
import Derived.Test.YtbbhdlbpefibeaaGreatDoorWArr
import Derived.Test.YtbbhdlbpefibeaaGreatDoorWZeros
import Derived.Test.YtbbhdlbpefibeaaGreatDoorWFoot
import Derived.Test.YtbbhdlbpefibeaaGreatDoorWKept
import Derived.Test.YtbbhdlbpefibeaaGreatDoorWShare
import Derived.Test.YtbbhdlbpefibeaaGreatDoorWN
import Derived.Test.YtbbhdlbpefibeaaGreatDoorWFootNe
import Derived.Test.YtbbhdlbpefibeaaGreatDoorWAt
import Derived.Test.YtbbhdlbpefibeaaGreatDoorWEqStruct
import Derived.Test.YtbbhdlbpefibeaaGreatDoorWRepsOne
import Derived.Test.YtbbhdlbpefibeaaGreatDoorWInv
import Derived.Test.YtbbhdlbpefibeaaGreatDoorWInvWords
import Derived.Test.YtbbhdlbpefibeaaGreatDoorWGuard
import Derived.Test.YtbbhdlbpefibeaaGreatDoorWNEv
import Derived.Test.YtbbhdlbpefibeaaGreatDoorWMore
namespace Go.Proofs.YtbbhdlbpefibeaaGreatDoor.P
open Go.RowKit Go.Proofs.YtbbhdlbpefibeaaGreatDoorW.PrintWords Go.Proofs.YtbbhdlbpefibeaaGreatDoorW.PrintLast Go.Proofs.YtbbhdlbpefibeaaGreatDoorW.PrintMore
attribute [local go_sem] max2_int min2_int max_two min_two max_three min_three max_four min_four   -- for this text's walks alone
set_option linter.unusedVariables false
set_option linter.unusedSimpArgs false



def errW : Option Int → Value
 | none => .nilIface
 | some c => .iface 31 (.int .i64 c)
theorem errW_none : errW none = .nilIface := rfl
theorem errW_some (c : Int) : errW (some c) = .iface 31 (.int .i64 c) := rfl

@[go_sem] theorem errEq27 (a b : Int) (w : World) : (binOp .eql 27 (.iface 31 (.int .i64 a)) (.iface 31 (.int .i64 b))).run Tryz.prog w = .ok (.bool (a == b)) w := Go.Lib.run_eql_iface_int w a b Tryz.underlying27 (by kernel_rfl) Tryz.underlying31
@[go_sem] theorem errNe27 (a b : Int) (w : World) : (binOp .neq 27 (.iface 31 (.int .i64 a)) (.iface 31 (.int .i64 b))).run Tryz.prog w = .ok (.bool (!(a == b))) w := Go.Lib.run_neq_iface_int w a b Tryz.underlying27 (by kernel_rfl) Tryz.underlying31
@[go_sem] theorem errEqN27 (b : Int) (w : World) : (binOp .eql 27 .nilIface (.iface 31 (.int .i64 b))).run Tryz.prog w = .ok (.bool false) w := run_eql_iface_nil_left w _ _ Tryz.underlying27
@[go_sem] theorem errNeN27 (b : Int) (w : World) : (binOp .neq 27 .nilIface (.iface 31 (.int .i64 b))).run Tryz.prog w = .ok (.bool true) w := by
 have h : ∀ d : Nat, (Op.equalIn (d + 1) 27 .nilIface (.iface 31 (.int .i64 b))).run Tryz.prog w = .ok false w := fun d => by simp [Op.equalIn, run_underlying Tryz.underlying27]
 simp only [binOp]
 simp [Op.equal, Op.maxDepth, h 9999]
@[go_sem] theorem errGd27 (op : BinOp) (x y : Operand) (d : TypeId) (u : Value) : eqGuard op 27 x y .nilIface (.iface d u) = pure () := by cases op <;> rfl
theorem info2 : (Tryz.prog.info? 2).map (fun i => (i.zero, i.size, i.bytes)) = some (some (.int .i64 0), 1, 8) := by kernel_rfl
-- the values' own types

end Go.Proofs.YtbbhdlbpefibeaaGreatDoor.P
