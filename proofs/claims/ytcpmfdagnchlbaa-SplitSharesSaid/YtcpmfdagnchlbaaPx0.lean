-- Written by a program of this session out of the translation of the seat: Lean functions and the proofs that the Go functions come to them.
import Derived.Test.YtcpmfdagnchlbaaProg
import Derived.Test.YtcpmfdagnchlbaaB
import Derived.Test.YtcpmfdagnchlbaaK
import Derived.Test.YtcpmfdagnchlbaaM
import Derived.Test.YtcpmfdagnchlbaaU
import Derived.Test.YtcpmfdagnchlbaaSta
import Derived.Laws.Externs
import Derived.Laws.CopyOwn
import Derived.Deep.RegionLaw
import Derived.Below
import Derived.Deep.Draws
import Derived.Deep.AppendLies
import Derived.Maps.AppendAt
import Derived.OwnWalk
import Derived.Laws.BytesArg
import Derived.Laws.MakeOwn
import Derived.Laws.OwnMore
import Derived.Deep.OwnRows
import Derived.Tactics
import Derived.Lib.ConvBytes
import Derived.Laws.Slices
import Derived.WalkKit
import Derived.KernelRfl
import Derived.RowKit3
import Derived.Deep.LoopGhost
import Derived.Deep.QuietTactic
import Derived.BigQuiet
import Derived.WideLaws
import Derived.Deep.DeepCutAuto
import Derived.Deep.CutBlock
import Derived.Deep.RegionHeld3
import Derived.Laws.Rows
import Derived.Lib.AppendStr
import Derived.ArgAppend
import Derived.Laws.IdiomCopy
import Derived.OrdersHeld
import Derived.Laws.BitsLemmas
import Derived.RowKit
import Derived.LaidEql
import Derived.Lib.IfaceEq
import Derived.Lib.IfaceNeq
import Derived.Test.YtcpmfdagnchlbaaWWords
import Derived.Test.YtcpmfdagnchlbaaWLast
import Derived.Test.YtcpmfdagnchlbaaWTab
import Derived.Test.YtcpmfdagnchlbaaWFour
import Derived.Test.YtcpmfdagnchlbaaWQPut
import Derived.Test.YtcpmfdagnchlbaaWApart
import Derived.Test.YtcpmfdagnchlbaaWArr
import Derived.Test.YtcpmfdagnchlbaaWZeros
import Derived.Test.YtcpmfdagnchlbaaWFoot
import Derived.Test.YtcpmfdagnchlbaaWKept
import Derived.Test.YtcpmfdagnchlbaaWShare
import Derived.Test.YtcpmfdagnchlbaaWN
import Derived.Test.YtcpmfdagnchlbaaWFootNe
import Derived.Test.YtcpmfdagnchlbaaWAt
import Derived.Test.YtcpmfdagnchlbaaWEqStruct
import Derived.Test.YtcpmfdagnchlbaaWRepsOne
import Derived.Test.YtcpmfdagnchlbaaWInv
import Derived.Test.YtcpmfdagnchlbaaWInvWords
import Derived.Test.YtcpmfdagnchlbaaWGuard
import Derived.Test.YtcpmfdagnchlbaaWNEv
import Derived.Test.YtcpmfdagnchlbaaWMore
namespace Go.Proofs.Ytcpmfdagnchlbaa.P
open Go.RowKit Go.Proofs.YtcpmfdagnchlbaaW.PrintWords Go.Proofs.YtcpmfdagnchlbaaW.PrintLast Go.Proofs.YtcpmfdagnchlbaaW.PrintMore
attribute [local go_sem] max2_int min2_int max_two min_two max_three min_three max_four min_four   -- for this text's walks alone
set_option linter.unusedVariables false
set_option linter.unusedSimpArgs false



def errW : Option Int→Value
 | none=>.nilIface
 | some c=>.iface 29 (.int .i64 c)
theorem errW_none : errW none = .nilIface:=rfl
theorem errW_some (c : Int) : errW (some c) = .iface 29 (.int .i64 c):=rfl

@[go_sem] theorem errEq25 (a b : Int) (w : World) : (binOp .eql 25 (.iface 29 (.int .i64 a)) (.iface 29 (.int .i64 b))).run Try.prog w = .ok (.bool (a == b)) w:=Go.Lib.run_eql_iface_int w a b Try.underlying25 (by kernel_rfl) Try.underlying29
@[go_sem] theorem errNe25 (a b : Int) (w : World) : (binOp .neq 25 (.iface 29 (.int .i64 a)) (.iface 29 (.int .i64 b))).run Try.prog w = .ok (.bool (!(a == b))) w:=Go.Lib.run_neq_iface_int w a b Try.underlying25 (by kernel_rfl) Try.underlying29
@[go_sem] theorem errEqN25 (b : Int) (w : World) : (binOp .eql 25 .nilIface (.iface 29 (.int .i64 b))).run Try.prog w = .ok (.bool false) w:=run_eql_iface_nil_left w _ _ Try.underlying25
@[go_sem] theorem errNeN25 (b : Int) (w : World) : (binOp .neq 25 .nilIface (.iface 29 (.int .i64 b))).run Try.prog w = .ok (.bool true) w:=by
 have h : ∀ d : Nat,(Op.equalIn (d + 1) 25 .nilIface (.iface 29 (.int .i64 b))).run Try.prog w = .ok false w:=fun d=>by simp [Op.equalIn,run_underlying Try.underlying25]
 simp only [binOp]
 simp [Op.equal,Op.maxDepth,h 9999]
@[go_sem] theorem errGd25 (op : BinOp) (x y : Operand) (d : TypeId) (u : Value) : eqGuard op 25 x y .nilIface (.iface d u) = pure ():=by cases op <;> rfl
theorem info2 : (Try.prog.info? 2).map (fun i=>(i.zero,i.size,i.bytes)) = some (some (.int .i64 0),1,8):=by kernel_rfl
theorem info3 : (Try.prog.info? 3).map (fun i=>(i.zero,i.size,i.bytes)) = some (some (.int .i64 0),1,8):=by kernel_rfl
theorem info4 : (Try.prog.info? 4).map (fun i=>(i.zero,i.size,i.bytes)) = some (some (.bool false),1,1):=by kernel_rfl
theorem info34 : (Try.prog.info? 34).map (fun i=>(i.zero,i.size,i.bytes)) = some (some (.agg #[(.slice none 0 0),(.bool false)]),2,32):=by kernel_rfl
theorem info42 : (Try.prog.info? 42).map (fun i=>(i.zero,i.size,i.bytes)) = some (some (.int .u64 0),1,8):=by kernel_rfl
-- the values' own types
def rd_L2 (xs : List (List Int)) (i : Int) : (List Int):=xs.getD i.toNat ([] : List Int)
theorem at_L2 {w : World} {A : Option Addr} {n : Nat} {xs : List (List Int)} (h : Kd.C (Kd.slice 42 (Kd.int .u64)) w A n xs) (i : Int) (h0 : 0≤i) (h1 : i < n) : ∃ ad f c0,A = some ad∧w.cell? (ad.add i.toNat) = some (.slice f (rd_L2 xs i).length c0)∧(rd_L2 xs i).length≤c0∧(Kd.int .u64).C w f (rd_L2 xs i).length (rd_L2 xs i):=by
 obtain ⟨ad,c,e,_,hK,hc0⟩:=Kd.C_get h ([] : List Int) i h0 h1;have hc : ∀ j u,c[j]? = some u→w.cell? (ad.add (i.toNat * 1 + j)) = some u:=hc0;obtain ⟨f,c0,rfl,l0,g0⟩:=hK;exact ⟨ad,f,c0,e,by have hq:=hc 0 _ rfl;rwa [Nat.mul_one,Nat.add_zero] at hq,l0,g0⟩

/-! #### struct type 34 -/
structure S34 where
 f0 : (List Int)
 f1 : Bool
def z34 : S34:=⟨([] : List Int),false⟩
def k34 : Kd S34:=Kd.iso (Kd.pair (Kd.slice 42 (Kd.int .u64)) Kd.bool) (fun x : S34=>(x.f0,x.f1))
theorem k34_heap : Kd.Heap k34:=Kd.heap_iso _ (Kd.heap_pair (Kd.heap_slice 42 (Kd.heap_int .u64)) Kd.heap_bool)
theorem k34_open {w : World} {x : S34} {cs : List Value} (h : k34.K w x cs) : ∃ f c0,cs = [.slice f x.f0.length c0,.bool x.f1]∧x.f0.length≤c0∧(Kd.int .u64).C w f x.f0.length x.f0:=by
 obtain ⟨_,_,rfl,⟨f,c0,rfl,l0,g0⟩,rfl⟩:=h;exact ⟨f,c0,rfl,l0,g0⟩
theorem k34_openM {w : World} {base : Nat} {ok : Nat→Prop} {x : S34} {cs : List Value} (h : k34.M w base ok x cs) : ∃ g,cs = [g,.bool x.f1]∧(Kd.int .u64).R 42 w base ok g x.f0:=by
 obtain ⟨_,_,rfl,⟨g,rfl,g0⟩,rfl⟩:=h;exact ⟨g,rfl,g0⟩
theorem k34_mk (w : World) (x : S34) {f : Option Addr} {c0 : Nat} (l0 : x.f0.length≤c0) (g0 : (Kd.int .u64).C w f x.f0.length x.f0) : k34.K w x [.slice f x.f0.length c0,.bool x.f1]:=⟨[.slice f x.f0.length c0],[.bool x.f1],rfl,⟨f,c0,rfl,l0,g0⟩,rfl⟩
theorem k34_mkM (w : World) (base : Nat) (ok : Nat→Prop) (x : S34) {g : Value} (g0 : (Kd.int .u64).R 42 w base ok g x.f0) : k34.M w base ok x [g,.bool x.f1]:=⟨[g],[.bool x.f1],rfl,⟨g,rfl,g0⟩,rfl⟩
theorem k34_openF {W : World} {ok : Nat→Prop} {x : S34} {cs : List Value} (h : Kd.FK k34 W ok x cs) : ∃ f c0,cs = [.slice f x.f0.length c0,.bool x.f1]∧x.f0.length≤c0∧Kd.F (Kd.int .u64) W ok f x.f0.length x.f0:=by
 obtain ⟨f,c0,rfl,l0,_⟩:=k34_open (Kd.FK_now h);exact ⟨f,c0,rfl,l0,(fun W' hW=>by obtain ⟨A0_,c0_,he,l0_,g0_⟩:=k34_open (h W' hW);injection (Option.some.inj (show some (Value.slice f x.f0.length c0) = some (Value.slice A0_ x.f0.length c0_) from congrArg (fun l=>l[0]?) he)) with ha_ _ _;rw [ha_];exact g0_)⟩
theorem k34_mkF (W : World) (ok : Nat→Prop) (x : S34) {f : Option Addr} {c0 : Nat} (l0 : x.f0.length≤c0) (g0 : Kd.F (Kd.int .u64) W ok f x.f0.length x.f0) : Kd.FK k34 W ok x [.slice f x.f0.length c0,.bool x.f1]:=fun W2 hW=>k34_mk W2 x l0 (g0 W2 hW)
def rd_T34 (xs : List S34) (i : Int) : S34:=xs.getD i.toNat z34
theorem at_T34 {w : World} {A : Option Addr} {n : Nat} {xs : List S34} (h : Kd.C k34 w A n xs) (i : Int) (h0 : 0≤i) (h1 : i < n) : ∃ ad f c0,A = some ad∧w.cell? (ad.add (i.toNat * 2)) = some (.slice f (rd_T34 xs i).f0.length c0)∧w.cell? ⟨(ad.add (i.toNat * 2)).block,(ad.add (i.toNat * 2)).off + 1,none⟩ = some (.bool (rd_T34 xs i).f1)∧(rd_T34 xs i).f0.length≤c0∧(Kd.int .u64).C w f (rd_T34 xs i).f0.length (rd_T34 xs i).f0:=by
 obtain ⟨ad,c,e,_,hK,hc0⟩:=Kd.C_get h z34 i h0 h1;have hc : ∀ j u,c[j]? = some u→w.cell? (ad.add (i.toNat * 2 + j)) = some u:=hc0;obtain ⟨f,c0,rfl,l0,g0⟩:=k34_open hK;exact ⟨ad,f,c0,e,hc 0 _ rfl,by rw [← add_field _ _ 1 (by omega)];exact hc 1 _ rfl,l0,g0⟩

end Go.Proofs.Ytcpmfdagnchlbaa.P
