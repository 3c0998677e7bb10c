-- Written by a program of this session out of the translation of the seat: Lean functions and the proofs that the Go functions come to them.
import Derived.Test.YtbfdmcjgkbpgnaaProg
import Derived.Test.YtbfdmcjgkbpgnaaB
import Derived.Test.YtbfdmcjgkbpgnaaD
import Derived.Test.YtbfdmcjgkbpgnaaM
import Derived.Test.YtbfdmcjgkbpgnaaR
import Derived.Test.YtbfdmcjgkbpgnaaT
import Derived.Below
import Derived.Deep.Draws
import Derived.Deep.AppendLies
import Derived.Maps.AppendAt
import Derived.OwnWalk
import Derived.Laws.BytesArg
import Derived.Laws.MakeOwn
import Derived.Laws.OwnMore
import Derived.Deep.OwnRows
import Derived.Tactics
import Derived.Lib.ConvBytes
import Derived.Laws.Slices
import Derived.WalkKit
import Derived.KernelRfl
import Derived.RowKit3
import Derived.Deep.LoopGhost
import Derived.Deep.QuietTactic
import Derived.BigQuiet
import Derived.WideLaws
import Derived.Deep.DeepCutAuto
import Derived.Deep.CutBlock
import Derived.Deep.RegionHeld3
import Derived.Laws.Rows
import Derived.Lib.AppendStr
import Derived.ArgAppend
import Derived.Laws.IdiomCopy
import Derived.OrdersHeld
import Derived.Laws.BitsLemmas
import Derived.RowKit
import Derived.LaidEql
import Derived.Lib.IfaceEq
import Derived.Lib.IfaceNeq
import Derived.Test.YtbfdmcjgkbpgnaaWWords
import Derived.Test.YtbfdmcjgkbpgnaaWLast
import Derived.Test.YtbfdmcjgkbpgnaaWTab
import Derived.Test.YtbfdmcjgkbpgnaaWFour
import Derived.Test.YtbfdmcjgkbpgnaaWQPut
import Derived.Test.YtbfdmcjgkbpgnaaWApart
import Derived.Test.YtbfdmcjgkbpgnaaWArr
import Derived.Test.YtbfdmcjgkbpgnaaWZeros
import Derived.Test.YtbfdmcjgkbpgnaaWFoot
import Derived.Test.YtbfdmcjgkbpgnaaWKept
import Derived.Test.YtbfdmcjgkbpgnaaWShare
import Derived.Test.YtbfdmcjgkbpgnaaWN
import Derived.Test.YtbfdmcjgkbpgnaaWFootNe
import Derived.Test.YtbfdmcjgkbpgnaaWAt
import Derived.Test.YtbfdmcjgkbpgnaaWEqStruct
import Derived.Test.YtbfdmcjgkbpgnaaWRepsOne
import Derived.Test.YtbfdmcjgkbpgnaaWInv
import Derived.Test.YtbfdmcjgkbpgnaaWInvWords
import Derived.Test.YtbfdmcjgkbpgnaaWGuard
import Derived.Test.YtbfdmcjgkbpgnaaWNEv
import Derived.Test.YtbfdmcjgkbpgnaaWMore
namespace Go.Proofs.Ytbfdmcjgkbpgnaa.P
open Go.RowKit Go.Proofs.YtbfdmcjgkbpgnaaW.PrintWords Go.Proofs.YtbfdmcjgkbpgnaaW.PrintLast Go.Proofs.YtbfdmcjgkbpgnaaW.PrintMore
attribute [local go_sem] max2_int min2_int max_two min_two max_three min_three max_four min_four   -- for this text's walks alone
set_option linter.unusedVariables false
set_option linter.unusedSimpArgs false



def errW : Option Int → Value
  | none => .nilIface
  | some c => .iface 39 (.int .i64 c)
theorem errW_none : errW none = .nilIface := rfl
theorem errW_some (c : Int) : errW (some c) = .iface 39 (.int .i64 c) := rfl

@[go_sem] theorem errEq27 (a b : Int) (w : World) : (binOp .eql 27 (.iface 39 (.int .i64 a)) (.iface 39 (.int .i64 b))).run Try.prog w = .ok (.bool (a == b)) w := Go.Lib.run_eql_iface_int w a b Try.underlying27 (by kernel_rfl) Try.underlying39
@[go_sem] theorem errNe27 (a b : Int) (w : World) : (binOp .neq 27 (.iface 39 (.int .i64 a)) (.iface 39 (.int .i64 b))).run Try.prog w = .ok (.bool (!(a == b))) w := Go.Lib.run_neq_iface_int w a b Try.underlying27 (by kernel_rfl) Try.underlying39
@[go_sem] theorem errEqN27 (b : Int) (w : World) : (binOp .eql 27 .nilIface (.iface 39 (.int .i64 b))).run Try.prog w = .ok (.bool false) w := run_eql_iface_nil_left w _ _ Try.underlying27
@[go_sem] theorem errNeN27 (b : Int) (w : World) : (binOp .neq 27 .nilIface (.iface 39 (.int .i64 b))).run Try.prog w = .ok (.bool true) w := by
  have h : ∀ d : Nat, (Op.equalIn (d + 1) 27 .nilIface (.iface 39 (.int .i64 b))).run Try.prog w = .ok false w := fun d => by simp [Op.equalIn, run_underlying Try.underlying27]
  simp only [binOp]
  simp [Op.equal, Op.maxDepth, h 9999]
@[go_sem] theorem errGd27 (op : BinOp) (x y : Operand) (d : TypeId) (u : Value) : eqGuard op 27 x y .nilIface (.iface d u) = pure () := by cases op <;> rfl
theorem info34 : (Try.prog.info? 34).map (fun i => (i.zero, i.size, i.bytes)) = some (some (.agg #[(.int .i64 0), (.int .i64 0), (.int .i64 0), (.int .i64 0)]), 4, 32) := by kernel_rfl
-- the values' own types
/-! #### struct type 34 -/
structure S34 where
  f0 : Int
  f1 : Int
  f2 : Int
  f3 : Int
def z34 : S34 := ⟨(0 : Int), (0 : Int), (0 : Int), (0 : Int)⟩
def k34 : Kd S34 := Kd.iso (Kd.pair (Kd.int .i64) (Kd.pair (Kd.int .i64) (Kd.pair (Kd.int .i64) (Kd.int .i64)))) (fun x : S34 => (x.f0, x.f1, x.f2, x.f3))
theorem k34_open {w : World} {x : S34} {cs : List Value} (h : k34.K w x cs) : cs = [.int .i64 x.f0, .int .i64 x.f1, .int .i64 x.f2, .int .i64 x.f3] := by
  obtain ⟨_, _, rfl, rfl, ⟨_, _, rfl, rfl, ⟨_, _, rfl, rfl, rfl⟩⟩⟩ := h
  exact rfl
theorem k34_openM {w : World} {base : Nat} {ok : Nat → Prop} {x : S34} {cs : List Value} (h : k34.M w base ok x cs) : cs = [.int .i64 x.f0, .int .i64 x.f1, .int .i64 x.f2, .int .i64 x.f3] := by
  obtain ⟨_, _, rfl, rfl, ⟨_, _, rfl, rfl, ⟨_, _, rfl, rfl, rfl⟩⟩⟩ := h
  exact rfl
theorem k34_mk (w : World) (x : S34)  : k34.K w x [.int .i64 x.f0, .int .i64 x.f1, .int .i64 x.f2, .int .i64 x.f3] := ⟨[.int .i64 x.f0], [.int .i64 x.f1, .int .i64 x.f2, .int .i64 x.f3], rfl, rfl, ⟨[.int .i64 x.f1], [.int .i64 x.f2, .int .i64 x.f3], rfl, rfl, ⟨[.int .i64 x.f2], [.int .i64 x.f3], rfl, rfl, rfl⟩⟩⟩
theorem k34_mkM (w : World) (base : Nat) (ok : Nat → Prop) (x : S34)  : k34.M w base ok x [.int .i64 x.f0, .int .i64 x.f1, .int .i64 x.f2, .int .i64 x.f3] := ⟨[.int .i64 x.f0], [.int .i64 x.f1, .int .i64 x.f2, .int .i64 x.f3], rfl, rfl, ⟨[.int .i64 x.f1], [.int .i64 x.f2, .int .i64 x.f3], rfl, rfl, ⟨[.int .i64 x.f2], [.int .i64 x.f3], rfl, rfl, rfl⟩⟩⟩
def rd_T34 (xs : List S34) (i : Int) : S34 := xs.getD i.toNat z34
theorem at_T34 {w : World} {A : Option Addr} {n : Nat} {xs : List S34} (h : Kd.C k34 w A n xs) (i : Int) (h0 : 0 ≤ i) (h1 : i < n) : ∃ ad , A = some ad ∧ w.cell? (ad.add (i.toNat * 4)) = some (.int .i64 (rd_T34 xs i).f0) ∧ w.cell? ⟨(ad.add (i.toNat * 4)).block, (ad.add (i.toNat * 4)).off + 1, none⟩ = some (.int .i64 (rd_T34 xs i).f1) ∧ w.cell? ⟨(ad.add (i.toNat * 4)).block, (ad.add (i.toNat * 4)).off + 2, none⟩ = some (.int .i64 (rd_T34 xs i).f2) ∧ w.cell? ⟨(ad.add (i.toNat * 4)).block, (ad.add (i.toNat * 4)).off + 3, none⟩ = some (.int .i64 (rd_T34 xs i).f3) := by
  obtain ⟨ad, c, e, _, hK, hc0⟩ := Kd.C_get h z34 i h0 h1
  have hc : ∀ j u, c[j]? = some u → w.cell? (ad.add (i.toNat * 4 + j)) = some u := hc0
  obtain rfl := k34_open hK
  exact ⟨ad, e, hc 0 _ rfl, by rw [← add_field _ _ 1 (by omega)]; exact hc 1 _ rfl, by rw [← add_field _ _ 2 (by omega)]; exact hc 2 _ rfl, by rw [← add_field _ _ 3 (by omega)]; exact hc 3 _ rfl⟩

end Go.Proofs.Ytbfdmcjgkbpgnaa.P
