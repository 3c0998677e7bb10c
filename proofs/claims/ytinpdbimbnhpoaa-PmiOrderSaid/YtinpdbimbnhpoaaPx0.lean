-- Written by a program of this session out of the translation of the seat: Lean functions and the proofs that the Go functions come to them.
import Derived.Test.YtinpdbimbnhpoaaProg
import Derived.Test.YtinpdbimbnhpoaaB
import Derived.Test.YtinpdbimbnhpoaaD
import Derived.Test.YtinpdbimbnhpoaaK
import Derived.Test.YtinpdbimbnhpoaaM
import Derived.Test.YtinpdbimbnhpoaaR
import Derived.Test.YtinpdbimbnhpoaaT
import Derived.Test.YtinpdbimbnhpoaaV
import Derived.Below
import Derived.Deep.Draws
import Derived.Deep.AppendLies
import Derived.Maps.AppendAt
import Derived.OwnWalk
import Derived.Laws.BytesArg
import Derived.Laws.MakeOwn
import Derived.Laws.OwnMore
import Derived.Deep.OwnRows
import Derived.Tactics
import Derived.Lib.ConvBytes
import Derived.Laws.Slices
import Derived.WalkKit
import Derived.KernelRfl
import Derived.RowKit3
import Derived.Deep.LoopGhost
import Derived.Deep.QuietTactic
import Derived.BigQuiet
import Derived.WideLaws
import Derived.Deep.DeepCutAuto
import Derived.Deep.CutBlock
import Derived.Deep.RegionHeld3
import Derived.Laws.Rows
import Derived.Lib.AppendStr
import Derived.ArgAppend
import Derived.Laws.IdiomCopy
import Derived.OrdersHeld
import Derived.Laws.BitsLemmas
import Derived.RowKit
import Derived.LaidEql
import Derived.Lib.IfaceEq
import Derived.Lib.IfaceNeq
import Derived.Test.YtinpdbimbnhpoaaWWords
import Derived.Test.YtinpdbimbnhpoaaWLast
import Derived.Test.YtinpdbimbnhpoaaWTab
import Derived.Test.YtinpdbimbnhpoaaWFour
import Derived.Test.YtinpdbimbnhpoaaWQPut
import Derived.Test.YtinpdbimbnhpoaaWApart
import Derived.Test.YtinpdbimbnhpoaaWArr
import Derived.Test.YtinpdbimbnhpoaaWZeros
import Derived.Test.YtinpdbimbnhpoaaWFoot
import Derived.Test.YtinpdbimbnhpoaaWKept
import Derived.Test.YtinpdbimbnhpoaaWShare
import Derived.Test.YtinpdbimbnhpoaaWN
import Derived.Test.YtinpdbimbnhpoaaWFootNe
import Derived.Test.YtinpdbimbnhpoaaWAt
import Derived.Test.YtinpdbimbnhpoaaWEqStruct
import Derived.Test.YtinpdbimbnhpoaaWRepsOne
import Derived.Test.YtinpdbimbnhpoaaWInv
import Derived.Test.YtinpdbimbnhpoaaWInvWords
import Derived.Test.YtinpdbimbnhpoaaWGuard
import Derived.Test.YtinpdbimbnhpoaaWNEv
import Derived.Test.YtinpdbimbnhpoaaWMore
namespace Go.Proofs.Ytinpdbimbnhpoaa.P
open Go.RowKit Go.Proofs.YtinpdbimbnhpoaaW.PrintWords Go.Proofs.YtinpdbimbnhpoaaW.PrintLast Go.Proofs.YtinpdbimbnhpoaaW.PrintMore
attribute [local go_sem] max2_int min2_int max_two min_two max_three min_three max_four min_four   -- for this text's walks alone
set_option linter.unusedVariables false
set_option linter.unusedSimpArgs false



def errW : Option Int → Value
  | none => .nilIface
  | some c => .iface 31 (.int .i64 c)
theorem errW_none : errW none = .nilIface := rfl
theorem errW_some (c : Int) : errW (some c) = .iface 31 (.int .i64 c) := rfl

@[go_sem] theorem errEq26 (a b : Int) (w : World) : (binOp .eql 26 (.iface 31 (.int .i64 a)) (.iface 31 (.int .i64 b))).run Try.prog w = .ok (.bool (a == b)) w := Go.Lib.run_eql_iface_int w a b Try.underlying26 (by kernel_rfl) Try.underlying31
@[go_sem] theorem errNe26 (a b : Int) (w : World) : (binOp .neq 26 (.iface 31 (.int .i64 a)) (.iface 31 (.int .i64 b))).run Try.prog w = .ok (.bool (!(a == b))) w := Go.Lib.run_neq_iface_int w a b Try.underlying26 (by kernel_rfl) Try.underlying31
@[go_sem] theorem errEqN26 (b : Int) (w : World) : (binOp .eql 26 .nilIface (.iface 31 (.int .i64 b))).run Try.prog w = .ok (.bool false) w := run_eql_iface_nil_left w _ _ Try.underlying26
@[go_sem] theorem errNeN26 (b : Int) (w : World) : (binOp .neq 26 .nilIface (.iface 31 (.int .i64 b))).run Try.prog w = .ok (.bool true) w := by
  have h : ∀ d : Nat, (Op.equalIn (d + 1) 26 .nilIface (.iface 31 (.int .i64 b))).run Try.prog w = .ok false w := fun d => by simp [Op.equalIn, run_underlying Try.underlying26]
  simp only [binOp]
  simp [Op.equal, Op.maxDepth, h 9999]
@[go_sem] theorem errGd26 (op : BinOp) (x y : Operand) (d : TypeId) (u : Value) : eqGuard op 26 x y .nilIface (.iface d u) = pure () := by cases op <;> rfl
theorem info54 : (Try.prog.info? 54).map (fun i => (i.zero, i.size, i.bytes)) = some (some (.agg #[(.int .i64 0), (.int .i64 0), (.int .i64 0), (.int .i64 0)]), 4, 32) := by kernel_rfl
-- the values' own types
/-! #### struct type 54 -/
structure S54 where
  f0 : Int
  f1 : Int
  f2 : Int
  f3 : Int
def z54 : S54 := ⟨(0 : Int), (0 : Int), (0 : Int), (0 : Int)⟩
def k54 : Kd S54 := Kd.iso (Kd.pair (Kd.int .i64) (Kd.pair (Kd.int .i64) (Kd.pair (Kd.int .i64) (Kd.int .i64)))) (fun x : S54 => (x.f0, x.f1, x.f2, x.f3))
theorem k54_open {w : World} {x : S54} {cs : List Value} (h : k54.K w x cs) : cs = [.int .i64 x.f0, .int .i64 x.f1, .int .i64 x.f2, .int .i64 x.f3] := by
  obtain ⟨_, _, rfl, rfl, ⟨_, _, rfl, rfl, ⟨_, _, rfl, rfl, rfl⟩⟩⟩ := h
  exact rfl
theorem k54_openM {w : World} {base : Nat} {ok : Nat → Prop} {x : S54} {cs : List Value} (h : k54.M w base ok x cs) : cs = [.int .i64 x.f0, .int .i64 x.f1, .int .i64 x.f2, .int .i64 x.f3] := by
  obtain ⟨_, _, rfl, rfl, ⟨_, _, rfl, rfl, ⟨_, _, rfl, rfl, rfl⟩⟩⟩ := h
  exact rfl
theorem k54_mk (w : World) (x : S54)  : k54.K w x [.int .i64 x.f0, .int .i64 x.f1, .int .i64 x.f2, .int .i64 x.f3] := ⟨[.int .i64 x.f0], [.int .i64 x.f1, .int .i64 x.f2, .int .i64 x.f3], rfl, rfl, ⟨[.int .i64 x.f1], [.int .i64 x.f2, .int .i64 x.f3], rfl, rfl, ⟨[.int .i64 x.f2], [.int .i64 x.f3], rfl, rfl, rfl⟩⟩⟩
theorem k54_mkM (w : World) (base : Nat) (ok : Nat → Prop) (x : S54)  : k54.M w base ok x [.int .i64 x.f0, .int .i64 x.f1, .int .i64 x.f2, .int .i64 x.f3] := ⟨[.int .i64 x.f0], [.int .i64 x.f1, .int .i64 x.f2, .int .i64 x.f3], rfl, rfl, ⟨[.int .i64 x.f1], [.int .i64 x.f2, .int .i64 x.f3], rfl, rfl, ⟨[.int .i64 x.f2], [.int .i64 x.f3], rfl, rfl, rfl⟩⟩⟩
def rd_T54 (xs : List S54) (i : Int) : S54 := xs.getD i.toNat z54
theorem at_T54 {w : World} {A : Option Addr} {n : Nat} {xs : List S54} (h : Kd.C k54 w A n xs) (i : Int) (h0 : 0 ≤ i) (h1 : i < n) : ∃ ad , A = some ad ∧ w.cell? (ad.add (i.toNat * 4)) = some (.int .i64 (rd_T54 xs i).f0) ∧ w.cell? ⟨(ad.add (i.toNat * 4)).block, (ad.add (i.toNat * 4)).off + 1, none⟩ = some (.int .i64 (rd_T54 xs i).f1) ∧ w.cell? ⟨(ad.add (i.toNat * 4)).block, (ad.add (i.toNat * 4)).off + 2, none⟩ = some (.int .i64 (rd_T54 xs i).f2) ∧ w.cell? ⟨(ad.add (i.toNat * 4)).block, (ad.add (i.toNat * 4)).off + 3, none⟩ = some (.int .i64 (rd_T54 xs i).f3) := by
  obtain ⟨ad, c, e, _, hK, hc0⟩ := Kd.C_get h z54 i h0 h1
  have hc : ∀ j u, c[j]? = some u → w.cell? (ad.add (i.toNat * 4 + j)) = some u := hc0
  obtain rfl := k54_open hK
  exact ⟨ad, e, hc 0 _ rfl, by rw [← add_field _ _ 1 (by omega)]; exact hc 1 _ rfl, by rw [← add_field _ _ 2 (by omega)]; exact hc 2 _ rfl, by rw [← add_field _ _ 3 (by omega)]; exact hc 3 _ rfl⟩

end Go.Proofs.Ytinpdbimbnhpoaa.P
