-- Written by a program of this session out of the translation of the seat: Lean functions and the proofs that the Go functions come to them.
import Derived.Test.YtghimjkoaldafaaProg
import Derived.Test.YtghimjkoaldafaaB
import Derived.Test.YtghimjkoaldafaaK
import Derived.Test.YtghimjkoaldafaaM
import Derived.Test.YtghimjkoaldafaaR
import Derived.Test.YtghimjkoaldafaaU
import Derived.Test.YtghimjkoaldafaaSta
import Derived.Laws.Externs
import Derived.Laws.CopyOwn
import Derived.Deep.RegionLaw
import Derived.Below
import Derived.Deep.Draws
import Derived.Deep.AppendLies
import Derived.Maps.AppendAt
import Derived.OwnWalk
import Derived.Laws.BytesArg
import Derived.Laws.MakeOwn
import Derived.Laws.OwnMore
import Derived.Deep.OwnRows
import Derived.Tactics
import Derived.Lib.ConvBytes
import Derived.Laws.Slices
import Derived.WalkKit
import Derived.KernelRfl
import Derived.RowKit3
import Derived.Deep.LoopGhost
import Derived.Deep.QuietTactic
import Derived.BigQuiet
import Derived.WideLaws
import Derived.Deep.DeepCutAuto
import Derived.Deep.CutBlock
import Derived.Deep.RegionHeld3
import Derived.Laws.Rows
import Derived.Lib.AppendStr
import Derived.ArgAppend
import Derived.Laws.IdiomCopy
import Derived.OrdersHeld
import Derived.Laws.BitsLemmas
import Derived.RowKit
import Derived.LaidEql
import Derived.Lib.IfaceEq
import Derived.Lib.IfaceNeq
import Derived.Test.YtghimjkoaldafaaWWords
import Derived.Test.YtghimjkoaldafaaWLast
import Derived.Test.YtghimjkoaldafaaWTab
import Derived.Test.YtghimjkoaldafaaWFour
import Derived.Test.YtghimjkoaldafaaWQPut
import Derived.Test.YtghimjkoaldafaaWApart
import Derived.Test.YtghimjkoaldafaaWArr
import Derived.Test.YtghimjkoaldafaaWZeros
import Derived.Test.YtghimjkoaldafaaWFoot
import Derived.Test.YtghimjkoaldafaaWKept
import Derived.Test.YtghimjkoaldafaaWShare
import Derived.Test.YtghimjkoaldafaaWN
import Derived.Test.YtghimjkoaldafaaWFootNe
import Derived.Test.YtghimjkoaldafaaWAt
import Derived.Test.YtghimjkoaldafaaWEqStruct
import Derived.Test.YtghimjkoaldafaaWRepsOne
import Derived.Test.YtghimjkoaldafaaWInv
import Derived.Test.YtghimjkoaldafaaWInvWords
import Derived.Test.YtghimjkoaldafaaWGuard
import Derived.Test.YtghimjkoaldafaaWNEv
import Derived.Test.YtghimjkoaldafaaWMore
namespace Go.Proofs.Ytghimjkoaldafaa.P
open Go.RowKit Go.Proofs.YtghimjkoaldafaaW.PrintWords Go.Proofs.YtghimjkoaldafaaW.PrintLast Go.Proofs.YtghimjkoaldafaaW.PrintMore
attribute [local go_sem] max2_int min2_int max_two min_two max_three min_three max_four min_four   -- for this text's walks alone
set_option linter.unusedVariables false
set_option linter.unusedSimpArgs false
def errW : Option Int→Value
 | none=>.nilIface
 | some c=>.iface 29 (.int .i64 c)
theorem errW_none : errW none = .nilIface:=rfl
theorem errW_some (c : Int) : errW (some c) = .iface 29 (.int .i64 c):=rfl
@[go_sem] theorem errEq24 (a b : Int) (w : World) : (binOp .eql 24 (.iface 29 (.int .i64 a)) (.iface 29 (.int .i64 b))).run Try.prog w = .ok (.bool (a == b)) w:=Go.Lib.run_eql_iface_int w a b Try.underlying24 (by kernel_rfl) Try.underlying29
@[go_sem] theorem errNe24 (a b : Int) (w : World) : (binOp .neq 24 (.iface 29 (.int .i64 a)) (.iface 29 (.int .i64 b))).run Try.prog w = .ok (.bool (!(a == b))) w:=Go.Lib.run_neq_iface_int w a b Try.underlying24 (by kernel_rfl) Try.underlying29
@[go_sem] theorem errEqN24 (b : Int) (w : World) : (binOp .eql 24 .nilIface (.iface 29 (.int .i64 b))).run Try.prog w = .ok (.bool false) w:=run_eql_iface_nil_left w _ _ Try.underlying24
@[go_sem] theorem errNeN24 (b : Int) (w : World) : (binOp .neq 24 .nilIface (.iface 29 (.int .i64 b))).run Try.prog w = .ok (.bool true) w:=by
 have h : ∀ d : Nat,(Op.equalIn (d + 1) 24 .nilIface (.iface 29 (.int .i64 b))).run Try.prog w = .ok false w:=fun d=>by simp [Op.equalIn,run_underlying Try.underlying24]
 simp only [binOp]
 simp [Op.equal,Op.maxDepth,h 9999]
@[go_sem] theorem errGd24 (op : BinOp) (x y : Operand) (d : TypeId) (u : Value) : eqGuard op 24 x y .nilIface (.iface d u) = pure ():=by cases op <;> rfl
theorem info2 : (Try.prog.info? 2).map (fun i=>(i.zero,i.size,i.bytes)) = some (some (.int .i64 0),1,8):=by kernel_rfl
theorem info3 : (Try.prog.info? 3).map (fun i=>(i.zero,i.size,i.bytes)) = some (some (.int .i64 0),1,8):=by kernel_rfl
theorem info4 : (Try.prog.info? 4).map (fun i=>(i.zero,i.size,i.bytes)) = some (some (.bool false),1,1):=by kernel_rfl
theorem info51 : (Try.prog.info? 51).map (fun i=>(i.zero,i.size,i.bytes)) = some (some (.agg #[(.slice none 0 0),(.bool false)]),2,32):=by kernel_rfl
theorem info60 : (Try.prog.info? 60).map (fun i=>(i.zero,i.size,i.bytes)) = some (some (.int .u64 0),1,8):=by kernel_rfl
-- the values' own types
structure S51 where
 f0 : (List Int)
 f1 : Bool
def z51 : S51:=⟨([] : List Int),false⟩
def k51 : Kd S51:=Kd.iso (Kd.pair (Kd.slice 60 (Kd.int .u64)) Kd.bool) (fun x : S51=>(x.f0,x.f1))
theorem k51_open {w : World} {x : S51} {cs : List Value} (h : k51.K w x cs) : ∃ f c0,cs = [.slice f x.f0.length c0,.bool x.f1]∧x.f0.length≤c0∧(Kd.int .u64).C w f x.f0.length x.f0:=by
 obtain ⟨_,_,rfl,⟨f,c0,rfl,l0,g0⟩,rfl⟩:=h;exact ⟨f,c0,rfl,l0,g0⟩
theorem k51_mk (w : World) (x : S51) {f : Option Addr} {c0 : Nat} (l0 : x.f0.length≤c0) (g0 : (Kd.int .u64).C w f x.f0.length x.f0) : k51.K w x [.slice f x.f0.length c0,.bool x.f1]:=⟨[.slice f x.f0.length c0],[.bool x.f1],rfl,⟨f,c0,rfl,l0,g0⟩,rfl⟩
theorem k51_openF {W : World} {ok : Nat→Prop} {x : S51} {cs : List Value} (h : Kd.FK k51 W ok x cs) : ∃ f c0,cs = [.slice f x.f0.length c0,.bool x.f1]∧x.f0.length≤c0∧Kd.F (Kd.int .u64) W ok f x.f0.length x.f0:=by
 obtain ⟨f,c0,rfl,l0,_⟩:=k51_open (Kd.FK_now h);exact ⟨f,c0,rfl,l0,(fun W' hW=>by obtain ⟨A0_,c0_,he,l0_,g0_⟩:=k51_open (h W' hW);injection (Option.some.inj (show some (Value.slice f x.f0.length c0) = some (Value.slice A0_ x.f0.length c0_) from congrArg (fun l=>l[0]?) he)) with ha_ _ _;rw [ha_];exact g0_)⟩
theorem k51_mkF (W : World) (ok : Nat→Prop) (x : S51) {f : Option Addr} {c0 : Nat} (l0 : x.f0.length≤c0) (g0 : Kd.F (Kd.int .u64) W ok f x.f0.length x.f0) : Kd.FK k51 W ok x [.slice f x.f0.length c0,.bool x.f1]:=fun W2 hW=>k51_mk W2 x l0 (g0 W2 hW)
def rd_T51 (xs : List S51) (i : Int) : S51:=xs.getD i.toNat z51
theorem at_T51 {w : World} {A : Option Addr} {n : Nat} {xs : List S51} (h : Kd.C k51 w A n xs) (i : Int) (h0 : 0≤i) (h1 : i < n) : ∃ ad f c0,A = some ad∧w.cell? (ad.add (i.toNat * 2)) = some (.slice f (rd_T51 xs i).f0.length c0)∧w.cell? ⟨(ad.add (i.toNat * 2)).block,(ad.add (i.toNat * 2)).off + 1,none⟩ = some (.bool (rd_T51 xs i).f1)∧(rd_T51 xs i).f0.length≤c0∧(Kd.int .u64).C w f (rd_T51 xs i).f0.length (rd_T51 xs i).f0:=by
 obtain ⟨ad,c,e,_,hK,hc0⟩:=Kd.C_get h z51 i h0 h1;have hc : ∀ j u,c[j]? = some u→w.cell? (ad.add (i.toNat * 2 + j)) = some u:=hc0;obtain ⟨f,c0,rfl,l0,g0⟩:=k51_open hK;exact ⟨ad,f,c0,e,hc 0 _ rfl,by rw [← add_field _ _ 1 (by omega)];exact hc 1 _ rfl,l0,g0⟩
end Go.Proofs.Ytghimjkoaldafaa.P
