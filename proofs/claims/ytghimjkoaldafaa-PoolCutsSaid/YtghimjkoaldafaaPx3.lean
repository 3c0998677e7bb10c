-- Written by a program of this session out of the translation of the seat: Lean functions and the proofs that the Go functions come to them.
import Derived.Test.YtghimjkoaldafaaPx0
import Derived.Test.YtghimjkoaldafaaPx1
import Derived.Test.YtghimjkoaldafaaPx2
namespace Go.Proofs.Ytghimjkoaldafaa.P
open Go.RowKit Go.Proofs.YtghimjkoaldafaaW.PrintWords Go.Proofs.YtghimjkoaldafaaW.PrintLast Go.Proofs.YtghimjkoaldafaaW.PrintMore
open Go.Proofs.Ytghimjkoaldafaa.P renaming errW_none → aa, errW_some → ab
open Go.Proofs.YtghimjkoaldafaaW.PrintWords renaming gate_callee → ac, below_step → ag, results_list → al
open Option renaming bind_some → ad, bind_eq_some_iff → ae
open Option.some renaming injEq → af
open Go.Proofs.Ytghimjkoaldafaa.P.M renaming abs → ah, In → ai, month → aj, told_out → am, quo → an, may → ao, told_in → ap, stripOk → aq, wrapu → ar, fee → au, guar → av
open Nat renaming le_refl → ak
set_option maxHeartbeats 8000000
set_option maxRecDepth 100000
attribute [local go_sem] max2_int min2_int max_two min_two max_three min_three max_four min_four   -- for this text's walks alone
set_option linter.unusedVariables false
set_option linter.unusedSimpArgs false
theorem cents_MulDiv.size_tells (a : Int) (h : ai a) : cents_size.f a = some (ah a,decide (a < 0)):=by
 unfold cents_size.f ah ai at *
 by_cases h0 : a < 0
 ·rw [if_pos h0,if_pos h0,decide_eq_true h0]
  congr 2
  simp only [ar]
  omega
 ·rw [if_neg h0,if_neg h0,decide_eq_false h0]
  congr 2
  simp only [ar]
  omega
theorem cents_MulDiv.further_tells (q r c : Int) (minus : Bool) (mode : Int) (hm : 1≤mode∧mode≤4) (h0 : 0≤q) (h1 : q < 18446744073709551616) (hr : 0 < r) (hrc : r < c) (hc : c < 18446744073709551616) :
  cents_further.f q r c minus mode = some (decide ((if minus = true then mode = 1 else mode = 2)∨mode = 3∧2 * r ≥ c∨mode = 4∧(2 * r > c∨2 * r = c∧q % 2 = 1))):=by
 unfold cents_further.f
 have hw : IntKind.u64.wrap (c - r) = c - r:=M.wrapu_id (by omega) (by omega);rw [hw,M.and_one q h0 h1]
 have hm' : mode = 1∨mode = 2∨mode = 3∨mode = 4:=by omega
 rcases hm' with rfl|rfl|rfl|rfl
 ·cases minus <;> simp <;> omega
 ·cases minus <;> simp <;> omega
 ·by_cases g : r > c - r
  ·have g2 : c≤2 * r:=by omega
   cases minus <;> simp [g,g2]
  ·by_cases g' : r = c - r
   ·have g2 : c≤2 * r:=by omega
    cases minus <;> simp [g,g2] <;> omega
   ·have g2 : ¬ c≤2 * r:=by omega
    cases minus <;> simp [g,g',g2]
 ·have h2 : 2 * r > c ↔ r > c - r:=by omega
  have h3 : 2 * r = c ↔ r = c - r:=by omega
  simp only [h2,h3]
  by_cases g : r > c - r
  ·cases minus <;> simp [g]
  ·by_cases g' : r = c - r
   ·have e : ∀ z : Int,(z == 1) = decide (z = 1):=fun z=>by by_cases h : z = 1 <;> simp [h]
    cases minus <;> simp [g,← g',e]
   ·cases minus <;> simp [g,g']
theorem cents_MulDiv.last (N c mode : Int) (minus : Bool) (hN : 0≤N) (hc : 0 < c) (hc2 : c≤9223372036854775808) (hm : 1≤mode∧mode≤4) (hq : N / c < 18446744073709551616) (n : Int) (hn : n = if minus = true then -N else N) (k : Nat) :
  (if N % c > 0 then (cents_further.f (N / c) (N % c) c minus mode).bind fun t=>cents_MulDiv.j1 (k + 1) minus (N / c) t else cents_MulDiv.j1 (k + 1) minus (N / c) false) = some (M.told (an n c mode)):=by
 have r0:=Int.emod_nonneg N (show c≠0 by omega);have r1:=Int.emod_lt_of_pos N hc;have hq0 : 0≤N / c:=Int.ediv_nonneg hN (by omega);have hs:=M.quo_sized hN hc hm
 have key : ∀ (t : Bool) (v : Int),(v = if minus = true then -(N / c + (if t = true then 1 else 0)) else N / c + (if t = true then 1 else 0))→
   cents_MulDiv.j1 (k + 1) minus (N / c) t = some (M.told v):=by
  intro t v hv;simp only [cents_MulDiv.j1]
  generalize N / c = q at *;unfold cents_signed.f
  cases t with
  | true=>
   simp only [if_true] at hv ⊢
   by_cases hz : IntKind.u64.wrap (q + 1) = 0
   ·rw [if_pos hz,am]
    intro hin;unfold ai at hin
    rw [ar] at hz
    cases minus <;> simp at hv <;> omega
   ·rw [if_neg hz]
    have hw : IntKind.u64.wrap (q + 1) = q + 1:=by rw [ar] at hz ⊢;omega
    rw [hw]
    cases minus with
    | true=>
     simp only [if_true] at hv ⊢
     rw [ad]
     by_cases hle : q + 1≤9223372036854775808
     ·rw [if_pos (decide_eq_true hle),ap (show ai v from ⟨by omega,by omega⟩)]
      refine congrArg some (Prod.ext ?_ rfl);simp only [ar];unfold wrap64;omega
     ·rw [if_neg (by simpa using hle),am (fun hin=>by unfold ai at hin;omega)]
    | false=>
     simp only [Bool.false_eq_true,if_false] at hv ⊢
     rw [ad]
     by_cases hle : q + 1 < 9223372036854775808
     ·rw [if_pos (decide_eq_true hle),ap (show ai v from ⟨by omega,by omega⟩)]
      refine congrArg some (Prod.ext ?_ rfl);simp only [];unfold wrap64;omega
     ·rw [if_neg (by simpa using hle),am (fun hin=>by unfold ai at hin;omega)]
  | false=>
   simp only [Bool.false_eq_true,if_false] at hv ⊢
   cases minus with
   | true=>
    simp only [if_true] at hv ⊢
    rw [ad]
    by_cases hle : q≤9223372036854775808
    ·rw [if_pos (decide_eq_true hle),ap (show ai v from ⟨by omega,by omega⟩)]
     refine congrArg some (Prod.ext ?_ rfl);simp only [ar];unfold wrap64;omega
    ·rw [if_neg (by simpa using hle),am (fun hin=>by unfold ai at hin;omega)]
   | false=>
    simp only [Bool.false_eq_true,if_false] at hv ⊢
    rw [ad]
    by_cases hle : q < 9223372036854775808
    ·rw [if_pos (decide_eq_true hle),ap (show ai v from ⟨by omega,by omega⟩)]
     refine congrArg some (Prod.ext ?_ rfl);simp only [];unfold wrap64;omega
    ·rw [if_neg (by simpa using hle),am (fun hin=>by unfold ai at hin;omega)]
 by_cases hr : N % c > 0
 ·rw [if_pos hr,cents_MulDiv.further_tells _ _ _ _ _ hm hq0 hq hr r1 (by omega),ad]
  apply key
  subst hn;cases minus with
  | true=>
   simp only [if_true]
   rw [hs.2]
   congr 2
   simp only [hr,true_and,decide_eq_true_eq]
  | false=>
   simp only [Bool.false_eq_true,if_false]
   rw [hs.1]
   congr 2
   simp only [hr,true_and,decide_eq_true_eq]
 ·rw [if_neg hr]
  apply key
  subst hn;cases minus with
  | true=>simp only [if_true];rw [hs.2];simp [hr]
  | false=>simp only [Bool.false_eq_true,if_false];rw [hs.1];simp [hr]
theorem cents_MulDiv.quo_over {N c mode : Int} (hN : 0≤N) (hc : 0 < c) (hm : 1≤mode∧mode≤4) (hq : 18446744073709551616≤N / c) : ¬ ai (an N c mode)∧¬ ai (an (-N) c mode):=by
 have hs:=M.quo_sized hN hc hm;rw [hs.1,hs.2]
 unfold ai
 constructor <;> split <;> omega
theorem cents_MulDiv.quo_neg (n c mode : Int) (hc : c < 0) : an n c mode = an (-n) (-c) mode:=by
 unfold an
 simp only [if_pos hc,if_neg (show ¬ -c < 0 by omega)]
theorem cents_MulDiv.abs_mul (a b : Int) : a * b = if (decide (a < 0) == decide (b < 0)) = true then ah a * ah b else -(ah a * ah b):=by
 unfold ah
 by_cases ha : a < 0 <;> by_cases hb : b < 0 <;> simp [ha,hb,Int.neg_mul,Int.mul_neg]
theorem cents_MulDiv.tells (a b c mode : Int) (ha : ai a) (hb : ai b) (hc : ai c) (k : Nat) (hk : 4≤k) :
  cents_MulDiv.f k a b c mode = some (if c = 0∨mode < 1∨mode > 4 then (0,some 1) else M.told (an (a * b) c mode)):=by
 obtain ⟨k,rfl⟩ : ∃ m,k = m + 2:=⟨k - 2,by omega⟩
 unfold cents_MulDiv.f
 by_cases hc0 : c = 0
 ·rw [if_pos hc0,if_pos (.inl hc0)]
  simp [cents_MulDiv.j0]
 rw [if_neg hc0]
 by_cases hm1 : mode < 1
 ·rw [if_pos hm1,if_pos (.inr (.inl hm1))]
  simp [cents_MulDiv.j0]
 rw [if_neg hm1]
 by_cases hm4 : mode > 4
 ·rw [decide_eq_true hm4,if_pos (.inr (.inr hm4))]
  simp [cents_MulDiv.j0]
 rw [decide_eq_false hm4,if_neg (by omega)]
 have hm : 1≤mode∧mode≤4:=by omega
 simp only [cents_MulDiv.j0]
 rw [if_neg (by decide),cents_MulDiv.size_tells a ha,cents_MulDiv.size_tells b hb,cents_MulDiv.size_tells c hc]
 simp only [ad]
 have ba : 0≤ah a∧ah a≤9223372036854775808:=by unfold ah ai at *;split <;> omega
 have bb : 0≤ah b∧ah b≤9223372036854775808:=by unfold ah ai at *;split <;> omega
 have bc : 0 < ah c∧ah c≤9223372036854775808:=by unfold ah ai at *;split <;> omega
 have hN : 0≤ah a * ah b:=Int.mul_nonneg ba.1 bb.1;unfold bits_Mul64_s.f
 rw [if_pos ⟨ba.1,by omega,bb.1,by omega⟩]
 simp only [ad]
 have hcq : an (a * b) c mode = an (if (!((!(decide (a < 0) == decide (b < 0))) == decide (c < 0))) = true then -(ah a * ah b) else ah a * ah b) (ah c) mode:=by
  rw [cents_MulDiv.abs_mul a b]
  by_cases h : c < 0
  ·rw [cents_MulDiv.quo_neg _ _ _ h]
   have : ah c = -c:=by unfold ah;rw [if_pos h]
   rw [this,decide_eq_true h]
   cases hd : (decide (a < 0) == decide (b < 0)) <;> simp
  ·have : ah c = c:=by unfold ah;rw [if_neg h]
   rw [this,decide_eq_false h]
   cases hd : (decide (a < 0) == decide (b < 0)) <;> simp
 rw [hcq]
 generalize (!((!(decide (a < 0) == decide (b < 0))) == decide (c < 0))) = minus at *;generalize ah a * ah b = N at *;generalize ah c = z at *;by_cases hov : N / 18446744073709551616 ≥ z
 ·rw [if_pos hov,am]
  have hq : 18446744073709551616≤N / z:=by
   apply M.le_div bc.1
   rw [Int.mul_comm]
   omega
  have:=cents_MulDiv.quo_over hN bc.1 hm hq;cases minus
  ·exact this.1
  ·exact this.2
 ·rw [if_neg hov]
  unfold bits_Div64_s.f
  rw [if_pos ⟨by omega,by omega,by omega,by omega,by omega⟩]
  simp only [ad]
  have e : N / 18446744073709551616 * 18446744073709551616 + N % 18446744073709551616 = N:=by omega
  rw [e]
  refine cents_MulDiv.last N z mode minus hN bc.1 bc.2 hm ?_ _ rfl k;apply M.div_lt bc.1
  rw [Int.mul_comm]
  omega
def cents_MulDiv_s.f (a b c mode : Int) : Option (Int × Option Int):=
 if ai a∧ai b∧ai c then some (if c = 0∨mode < 1∨mode > 4 then (0,some 1) else M.told (an (a * b) c mode)) else none
theorem cents_MulDiv_s.calls (a0 : Int) (a1 : Int) (a2 : Int) (a3 : Int) (r1 : Int) (r2 : Option Int) (w : World) (h : cents_MulDiv_s.f a0 a1 a2 a3 = some (r1,r2)) :
  Calls Try.prog 20 #[.int .i64 a0,.int .i64 a1,.int .i64 a2,.int .i64 a3] w fun e w'=>e = .returned (.tuple #[.int .i64 r1,errW r2])∧Drawn0 w w':=by
 unfold cents_MulDiv_s.f at h
 split at h
 ·rename_i hr
  exact cents_MulDiv.calls 4 a0 a1 a2 a3 r1 r2 w ((cents_MulDiv.tells a0 a1 a2 a3 hr.1 hr.2.1 hr.2.2 4 (ak _)).trans h)
 ·cases h
theorem cents_MulDiv_s.at_ {a b c mode : Int} (ha : ai a) (hb : ai b) (hc : ai c) : cents_MulDiv_s.f a b c mode = some (if c = 0∨mode < 1∨mode > 4 then (0,some 1) else M.told (an (a * b) c mode)):=by unfold cents_MulDiv_s.f;rw [if_pos ⟨ha,hb,hc⟩]
def rate_may.f (a0 : Int) (a1 : Int) : Option (Bool):=if a0 ≥ 0 then (if a0≤10000000000000 then (if a1 ≥ 0 then (some (decide (a1≤300000))) else (some false)) else (some false)) else (some false)
theorem rate_may.calls (a0 : Int) (a1 : Int) (r : Bool) (w : World) (h : rate_may.f a0 a1 = some r) :
  Calls Try.prog 30 #[.int .i64 a0,.int .i64 a1] w fun e w'=>e = .returned (.bool r)∧Drawn0 w w':=by
 have H : (if a0 ≥ 0 then (if a0≤10000000000000 then (if a1 ≥ 0 then (some (decide (a1≤300000))) else (some false)) else (some false)) else (some false)) = some r:=h;clear h;by_cases c3 : a0 ≥ 0
 ·rw [if_pos c3] at H
  have c3b0 : decide (0≤a0) = true:=decide_eq_true c3;clear c3;by_cases c4 : a0≤10000000000000
  ·rw [if_pos c4] at H
   have c4b0 : decide (a0≤10000000000000) = true:=decide_eq_true c4;clear c4;by_cases c5 : a1 ≥ 0
   ·rw [if_pos c5] at H
    have c5b0 : decide (0≤a1) = true:=decide_eq_true c5;clear c5;obtain rfl:=Option.some.inj H;go_enter Try.func30,Try.ntmps30
    go_wp2
    go_ret
    exact ⟨by first|rfl|(simp;done)|(simp [*];done),by repeat (first|exact Drawn0.refl _|apply Drawn0.step)⟩
   ·rw [if_neg c5] at H
    have c5b0 : decide (0≤a1) = false:=decide_eq_false c5;clear c5;obtain rfl:=Option.some.inj H;go_enter Try.func30,Try.ntmps30
    go_wp2
    go_ret
    exact ⟨by first|rfl|(simp;done)|(simp [*];done),by repeat (first|exact Drawn0.refl _|apply Drawn0.step)⟩
  ·rw [if_neg c4] at H
   have c4b0 : decide (a0≤10000000000000) = false:=decide_eq_false c4;clear c4;obtain rfl:=Option.some.inj H;go_enter Try.func30,Try.ntmps30
   go_wp2
   go_ret
   exact ⟨by first|rfl|(simp;done)|(simp [*];done),by repeat (first|exact Drawn0.refl _|apply Drawn0.step)⟩
 ·rw [if_neg c3] at H
  have c3b0 : decide (0≤a0) = false:=decide_eq_false c3;clear c3;obtain rfl:=Option.some.inj H;go_enter Try.func30,Try.ntmps30
  go_wp2
  go_ret
  exact ⟨by first|rfl|(simp;done)|(simp [*];done),by repeat (first|exact Drawn0.refl _|apply Drawn0.step)⟩
def rate_Month.f (a0 : Int) (a1 : Int) : Option (Int × Option Int):=(rate_may.f a0 a1).bind fun D=>(if D = true then ((cents_MulDiv_s.f a0 a1 12000000 4).bind fun p=>(some (p.1,p.2))) else (some (0,some 1)))
theorem rate_Month.calls (a0 : Int) (a1 : Int) (r1 : Int) (r2 : Option Int) (w : World) (h : rate_Month.f a0 a1 = some (r1,r2)) :
  Calls Try.prog 17 #[.int .i64 a0,.int .i64 a1] w fun e w'=>e = .returned (.tuple #[.int .i64 r1,errW r2])∧Drawn0 w w':=by
 have hu24:=Try.underlying24;have hu29:=Try.underlying29;have H : ((rate_may.f a0 a1).bind fun D=>(if D = true then ((cents_MulDiv_s.f a0 a1 12000000 4).bind fun p=>(some (p.1,p.2))) else (some (0,some 1)))) = some (r1,r2):=h;clear h;replace H:=ae.mp H;obtain ⟨D,a4,H⟩:=H;replace H : (if D = true then ((cents_MulDiv_s.f a0 a1 12000000 4).bind fun p=>(some (p.1,p.2))) else (some (0,some 1))) = some (r1,r2):=H;have A3:=ka a4;clear a4;by_cases c4 : D = true
 ·subst c4;have H1 : ((cents_MulDiv_s.f a0 a1 12000000 4).bind fun p=>(some (p.1,p.2))) = some (r1,r2):=by rw [if_pos rfl] at H;exact H
  clear H;have H:=H1;clear H1;replace H:=ae.mp H;obtain ⟨⟨U,V⟩,I,H⟩:=H;replace H : (some (U,V)) = some (r1,r2):=H;have Z:=ka I;clear I;simp only [af,Prod.mk.injEq] at H
  obtain ⟨rfl,rfl⟩:=H;go_enter Try.func17,Try.ntmps17
  go_wp2_with (first|((with_reducible refine ac (f:=30) rfl ?_);refine kg (some 8) rfl rfl Try.func30 (by kernel_rfl) rfl #[.int .i64 a0,.int .i64 a1] rfl ?_;(with_reducible refine (rate_may.calls a0 a1 true _ A3.out).mono ?_);rintro e w' ⟨rfl,⟨nd,rfl⟩⟩;refine ⟨_,rfl,?_⟩)|((with_reducible refine ac (f:=20) rfl ?_);refine kg (some 13) rfl rfl Try.func20 (by kernel_rfl) rfl #[.int .i64 a0,.int .i64 a1,.int .i64 12000000,.int .i64 4] rfl ?_;(with_reducible refine (cents_MulDiv_s.calls a0 a1 12000000 4 U V _ Z.out).mono ?_);rintro e w' ⟨rfl,⟨nd,rfl⟩⟩;refine ⟨_,rfl,?_⟩;(try simp only [aa,ab])))
  go_ret2
  exact ⟨by first|rfl|(simp;done)|(simp [*];done),by repeat (first|exact Drawn0.refl _|apply Drawn0.step)⟩
 ·replace c4:=Bool.eq_false_iff.mpr c4;subst c4;have H1 : (some (0,some 1)) = some (r1,r2):=by rw [if_neg (show ¬ (false = true) by decide)] at H;exact H
  clear H;have H:=H1;clear H1;simp only [af,Prod.mk.injEq] at H
  obtain ⟨rfl,rfl⟩:=H;go_enter Try.func17,Try.ntmps17
  go_wp2_with (first|((with_reducible refine ac (f:=30) rfl ?_);refine kg (some 8) rfl rfl Try.func30 (by kernel_rfl) rfl #[.int .i64 a0,.int .i64 a1] rfl ?_;(with_reducible refine (rate_may.calls a0 a1 false _ A3.out).mono ?_);rintro e w' ⟨rfl,⟨nd,rfl⟩⟩;refine ⟨_,rfl,?_⟩))
  go_ret2
  exact ⟨by first|rfl|(simp;done)|(simp [*];done),by repeat (first|exact Drawn0.refl _|apply Drawn0.step)⟩
theorem rate_Month.tells (b r : Int) : rate_Month.f b r = some (if ao b r then (aj b r,none) else (0,some 1)):=by
 have hm : rate_may.f b r = some (decide (ao b r)):=by
  unfold rate_may.f ao
  by_cases h1 : 0≤b <;> by_cases h2 : b≤10000000000000 <;> by_cases h3 : 0≤r <;> simp [h1,h2,h3]
 unfold rate_Month.f
 rw [hm,ad]
 by_cases h : ao b r
 ·have hp:=M.prod_bd h;have h0:=M.month_nonneg h;have h1:=M.month_le h
  have hi : ai (an (b * r) 12000000 4):=by
   show ai (aj b r)
   unfold ao at h
   unfold ai
   omega
  have h':=h;unfold ao at h'
  rw [if_pos (decide_eq_true h),if_pos h,cents_MulDiv_s.at_ (by unfold ai;omega) (by unfold ai;omega) (by decide),ad,if_neg (by decide),ap hi]
  rfl
 ·rw [if_neg (by simpa using h),if_neg h]
def rate_Month_s.f (b r : Int) : Option (Int × Option Int):=some (if ao b r then (aj b r,none) else (0,some 1))
theorem rate_Month_s.calls (a0 : Int) (a1 : Int) (r1 : Int) (r2 : Option Int) (w : World) (h : rate_Month_s.f a0 a1 = some (r1,r2)) :
  Calls Try.prog 17 #[.int .i64 a0,.int .i64 a1] w fun e w'=>e = .returned (.tuple #[.int .i64 r1,errW r2])∧Drawn0 w w':=
 rate_Month.calls a0 a1 r1 r2 w ((rate_Month.tells a0 a1).trans h)
theorem rate_Month_s.yes {b r : Int} (h : ao b r) : rate_Month_s.f b r = some (aj b r,none):=by unfold rate_Month_s.f;rw [if_pos h]
theorem rate_Month_s.no {b r : Int} (h : ¬ ao b r) : rate_Month_s.f b r = some (0,some 1):=by unfold rate_Month_s.f;rw [if_neg h]
def pool_Strip.j0 : Nat→Int→Int→Int→Int→Bool→Option (Int × Int × Int × Option Int)
 | 0,_,_,_,_,_=>none
 | k + 1,x0,x2,x3,x12,x42=>if x42 = true then (some (0,0,0,some 1)) else ((rate_Month_s.f x0 x2).bind fun l=>(if l.2.isNone = true then ((rate_Month_s.f x0 x3).bind fun i=>(if i.2.isNone = true then (some (wrap64 ((wrap64 (x12 - (mn l.1 x12))) - (mn i.1 (wrap64 (x12 - (mn l.1 x12))))),mn l.1 x12,mn i.1 (wrap64 (x12 - (mn l.1 x12))),none)) else (some (0,0,0,some (i.2.getD 0))))) else (some (0,0,0,some (l.2.getD 0)))))
def pool_Strip.f (k : Nat) (a0 : Int) (a1 : Int) (a2 : Int) (a3 : Int) : Option (Int × Int × Int × Option Int):=(rate_Month_s.f a0 a1).bind fun o=>(if o.2.isNone = true then (if a2 < 0 then (pool_Strip.j0 k a0 a2 a3 o.1 true) else (if a3 < 0 then (pool_Strip.j0 k a0 a2 a3 o.1 true) else (if a2 > a1 then (pool_Strip.j0 k a0 a2 a3 o.1 true) else (pool_Strip.j0 k a0 a2 a3 o.1 (decide (a3 > (wrap64 (a1 - a2)))))))) else (some (0,0,0,some (o.2.getD 0))))
theorem pool_Strip.calls (k : Nat) (a0 : Int) (a1 : Int) (a2 : Int) (a3 : Int) (r1 : Int) (r2 : Int) (r3 : Int) (r4 : Option Int) (w : World) (h : pool_Strip.f k a0 a1 a2 a3 = some (r1,r2,r3,r4)) :
  Calls Try.prog 9 #[.int .i64 a0,.int .i64 a1,.int .i64 a2,.int .i64 a3] w fun e w'=>e = .returned (.tuple #[.int .i64 r1,.int .i64 r2,.int .i64 r3,errW r4])∧Below w.heap.size w w':=by
 have hu24:=Try.underlying24;have hu29:=Try.underlying29;have HB:=ka (Below.refl w.heap.size w);have H : ((rate_Month_s.f a0 a1).bind fun o=>(if o.2.isNone = true then (if a2 < 0 then (pool_Strip.j0 k a0 a2 a3 o.1 true) else (if a3 < 0 then (pool_Strip.j0 k a0 a2 a3 o.1 true) else (if a2 > a1 then (pool_Strip.j0 k a0 a2 a3 o.1 true) else (pool_Strip.j0 k a0 a2 a3 o.1 (decide (a3 > (wrap64 (a1 - a2)))))))) else (some (0,0,0,some (o.2.getD 0))))) = some (r1,r2,r3,r4):=h;clear h;replace H:=ae.mp H;obtain ⟨⟨d,K⟩,I,H⟩:=H;replace H : (if K.isNone = true then (if a2 < 0 then (pool_Strip.j0 k a0 a2 a3 d true) else (if a3 < 0 then (pool_Strip.j0 k a0 a2 a3 d true) else (if a2 > a1 then (pool_Strip.j0 k a0 a2 a3 d true) else (pool_Strip.j0 k a0 a2 a3 d (decide (a3 > (wrap64 (a1 - a2)))))))) else (some (0,0,0,some (K.getD 0)))) = some (r1,r2,r3,r4):=H;have Z:=ka I;clear I;rcases K with _|q425
 ·have H1 : (if a2 < 0 then (pool_Strip.j0 k a0 a2 a3 d true) else (if a3 < 0 then (pool_Strip.j0 k a0 a2 a3 d true) else (if a2 > a1 then (pool_Strip.j0 k a0 a2 a3 d true) else (pool_Strip.j0 k a0 a2 a3 d (decide (a3 > (wrap64 (a1 - a2)))))))) = some (r1,r2,r3,r4):=by rw [if_pos (show (none : Option Int).isNone = true by rfl)] at H;exact H
  clear H;have H:=H1;clear H1;try simp only [aa,ab]
  have W:=ka H;clear H;go_enter Try.func9,Try.ntmps9
  go_upto_region 4 with (first|((with_reducible refine ac (f:=17) rfl ?_);refine kg (some 19) rfl rfl Try.func17 (by kernel_rfl) rfl #[.int .i64 a0,.int .i64 a1] rfl ?_;(with_reducible refine (rate_Month_s.calls a0 a1 d none _ Z.out).mono ?_);rintro e w' ⟨rfl,⟨nd,rfl⟩⟩;refine ⟨_,rfl,?_⟩;(try simp only [aa,ab])))
  (try simp only [Act.put,List.setIfInBounds_toArray,List.set_cons_zero,List.set_cons_succ]);go_cut [42] (fun a8 wc=>∃ (kq : Nat) (x42_5 : Bool),a8 = .bool x42_5∧Aside0 (pool_Strip.j0 kq a0 a2 a3 d x42_5 = some (r1,r2,r3,r4))∧Aside0 (kq≤k)∧Aside0 (Below w.heap.size w wc))
  case first=>
   have H:=W.out;clear W;by_cases c7 : a2 < 0
   ·rw [if_pos c7] at H
    have c7b0 : decide (a2 < 0) = true:=decide_eq_true c7;clear c7;(first|rw [c7b0]|(simp only [i64_w,i32_w];rw [c7b0])|skip);have H':=ka H;clear H;go_wp2
    go_meet
    case rel=>exact ⟨_,(true),(by first|rfl|(simp;done)|(simp [*];done)),H',⟨by first|omega|exact ak _⟩,⟨by repeat (first|(with_reducible first|exact HB.out|apply kc1|apply kc2|apply kc3)|exact HB.out)⟩⟩
   ·rw [if_neg c7] at H
    have c7b0 : decide (a2 < 0) = false:=decide_eq_false c7;clear c7;(first|rw [c7b0]|(simp only [i64_w,i32_w];rw [c7b0])|skip);by_cases c8 : a3 < 0
    ·rw [if_pos c8] at H
     have c8b0 : decide (a3 < 0) = true:=decide_eq_true c8;clear c8;have H':=ka H;clear H;go_wp2
     go_meet
     case rel=>exact ⟨_,(true),(by first|rfl|(simp;done)|(simp [*];done)),H',⟨by first|omega|exact ak _⟩,⟨by repeat (first|(with_reducible first|exact HB.out|apply kc1|apply kc2|apply kc3)|exact HB.out)⟩⟩
    ·rw [if_neg c8] at H
     have c8b0 : decide (a3 < 0) = false:=decide_eq_false c8;clear c8;by_cases c9 : a2 > a1
     ·rw [if_pos c9] at H
      have c9b0 : decide (a1 < a2) = true:=decide_eq_true c9;clear c9;have H':=ka H;clear H;go_wp2
      go_meet
      case rel=>exact ⟨_,(true),(by first|rfl|(simp;done)|(simp [*];done)),H',⟨by first|omega|exact ak _⟩,⟨by repeat (first|(with_reducible first|exact HB.out|apply kc1|apply kc2|apply kc3)|exact HB.out)⟩⟩
     ·rw [if_neg c9] at H
      have c9b0 : decide (a1 < a2) = false:=decide_eq_false c9;clear c9;have H':=ka H;clear H;go_wp2
      go_meet
      case rel=>exact ⟨_,(decide (a3 > (wrap64 (a1 - a2)))),(by first|rfl|(simp;done)|(simp [*];done)),H',⟨by first|omega|exact ak _⟩,⟨by repeat (first|(with_reducible first|exact HB.out|apply kc1|apply kc2|apply kc3)|exact HB.out)⟩⟩
  case rest=>
   clear W;try clear c1
   try clear q425
   obtain ⟨kq,x42_5,rfl,HA,a9,HB⟩:=hcut;cases kq with
   | zero=>exact absurd HA.out (by simp [pool_Strip.j0])
   | succ kj5=>
    have H:=HA.out;clear HA;simp only [pool_Strip.j0] at H
    by_cases c10 : x42_5 = true
    ·subst c10;have H1 : (some (0,0,0,some 1)) = some (r1,r2,r3,r4):=by rw [if_pos rfl] at H;exact H
     clear H;have H:=H1;clear H1;simp only [af,Prod.mk.injEq] at H
     obtain ⟨rfl,rfl,rfl,rfl⟩:=H;go_wp2
     refine bodyPost_ret (al (rs:=[.tmp 8,.tmp 9,.tmp 10,.tmp 11]) rfl (by simp) (.tmp (.tmp (.tmp (.tmp .nil))))) rfl ?_;exact ⟨by first|rfl|(simp [aa,ab] <;> rfl)|(simp [*,aa,ab] <;> rfl),by repeat (first|(with_reducible first|exact HB.out|apply kc1|apply kc2|apply kc3)|exact HB.out)⟩
    ·replace c10:=Bool.eq_false_iff.mpr c10;subst c10;have H1 : ((rate_Month_s.f a0 a2).bind fun l=>(if l.2.isNone = true then ((rate_Month_s.f a0 a3).bind fun i=>(if i.2.isNone = true then (some (wrap64 ((wrap64 (d - (mn l.1 d))) - (mn i.1 (wrap64 (d - (mn l.1 d))))),mn l.1 d,mn i.1 (wrap64 (d - (mn l.1 d))),none)) else (some (0,0,0,some (i.2.getD 0))))) else (some (0,0,0,some (l.2.getD 0))))) = some (r1,r2,r3,r4):=by rw [if_neg (show ¬ (false = true) by decide)] at H;exact H
     clear H;have H:=H1;clear H1;replace H:=ae.mp H;obtain ⟨⟨j,L⟩,X,H⟩:=H;replace H : (if L.isNone = true then ((rate_Month_s.f a0 a3).bind fun i=>(if i.2.isNone = true then (some (wrap64 ((wrap64 (d - (mn j d))) - (mn i.1 (wrap64 (d - (mn j d))))),mn j d,mn i.1 (wrap64 (d - (mn j d))),none)) else (some (0,0,0,some (i.2.getD 0))))) else (some (0,0,0,some (L.getD 0)))) = some (r1,r2,r3,r4):=H;have J:=ka X;clear X;rcases L with _|q428
     ·have H1 : ((rate_Month_s.f a0 a3).bind fun i=>(if i.2.isNone = true then (some (wrap64 ((wrap64 (d - (mn j d))) - (mn i.1 (wrap64 (d - (mn j d))))),mn j d,mn i.1 (wrap64 (d - (mn j d))),none)) else (some (0,0,0,some (i.2.getD 0))))) = some (r1,r2,r3,r4):=by rw [if_pos (show (none : Option Int).isNone = true by rfl)] at H;exact H
      clear H;have H:=H1;clear H1;try simp only [aa,ab]
      replace H:=ae.mp H;obtain ⟨⟨A,O⟩,Y,H⟩:=H;replace H : (if O.isNone = true then (some (wrap64 ((wrap64 (d - (mn j d))) - (mn A (wrap64 (d - (mn j d))))),mn j d,mn A (wrap64 (d - (mn j d))),none)) else (some (0,0,0,some (O.getD 0)))) = some (r1,r2,r3,r4):=H;have R:=ka Y;clear Y;rcases O with _|q431
      ·have H1 : (some (wrap64 ((wrap64 (d - (mn j d))) - (mn A (wrap64 (d - (mn j d))))),mn j d,mn A (wrap64 (d - (mn j d))),none)) = some (r1,r2,r3,r4):=by rw [if_pos (show (none : Option Int).isNone = true by rfl)] at H;exact H
       clear H;have H:=H1;clear H1;try simp only [aa,ab]
       obtain ⟨ji13,hji13⟩ : ∃ j_ : Int,(mn j d) = j_:=⟨_,rfl⟩
       replace H : (some (wrap64 ((wrap64 (d - (ji13))) - (mn A (wrap64 (d - (ji13))))),ji13,mn A (wrap64 (d - (ji13))),none)) = some (r1,r2,r3,r4):=by first|(rw [hji13] at H;exact H)|(simp only [hji13] at H ⊢;exact H)
       (try rw [hji13] at J);(try rw [hji13] at R);have hji13_ : (if d < j then d else j) = ji13:=hji13;obtain ⟨ji14,hji14⟩ : ∃ j_ : Int,(mn A (wrap64 (d - (ji13)))) = j_:=⟨_,rfl⟩
       replace H : (some (wrap64 ((wrap64 (d - (ji13))) - (ji14)),ji13,ji14,none)) = some (r1,r2,r3,r4):=by first|(rw [hji14] at H;exact H)|(simp only [hji14] at H ⊢;exact H)
       (try rw [hji14] at J);(try rw [hji14] at R);have hji14_ : (if (wrap64 (d - (ji13))) < A then (wrap64 (d - (ji13))) else A) = ji14:=hji14;simp only [af,Prod.mk.injEq] at H
       obtain ⟨rfl,rfl,rfl,rfl⟩:=H;go_wp2_with (first|((with_reducible refine ac (f:=17) rfl ?_);refine kg (some 47) rfl rfl Try.func17 (by kernel_rfl) rfl #[.int .i64 a0,.int .i64 a2] rfl ?_;(with_reducible refine (rate_Month_s.calls a0 a2 j none _ J.out).mono ?_);rintro e w' ⟨rfl,⟨nd,rfl⟩⟩;refine ⟨_,rfl,?_⟩;(try simp only [aa,ab]))|((with_reducible refine ac (f:=17) rfl ?_);refine kg (some 56) rfl rfl Try.func17 (by kernel_rfl) rfl #[.int .i64 a0,.int .i64 a3] rfl ?_;(with_reducible refine (rate_Month_s.calls a0 a3 A none _ R.out).mono ?_);rintro e w' ⟨rfl,⟨nd,rfl⟩⟩;refine ⟨_,rfl,?_⟩;(try simp only [aa,ab])))
       refine bodyPost_ret (al (rs:=[.tmp 8,.tmp 9,.tmp 10,.tmp 11]) rfl (by simp) (.tmp (.tmp (.tmp (.tmp .nil))))) rfl ?_;exact ⟨by first|rfl|(simp [aa,ab] <;> rfl)|(simp only [← hji13,← hji14];first|rfl|(simp [aa,ab] <;> rfl))|(simp [*,aa,ab] <;> rfl),by repeat (first|(with_reducible first|exact HB.out|apply kc1|apply kc2|apply kc3)|exact HB.out)⟩
      ·have H1 : (some (0,0,0,some q431)) = some (r1,r2,r3,r4):=by rw [if_neg (show ¬ (some q431).isNone = true by simp)] at H;exact H
       clear H;have H:=H1;clear H1;try simp only [aa,ab]
       simp only [af,Prod.mk.injEq] at H
       obtain ⟨rfl,rfl,rfl,rfl⟩:=H;go_wp2_with (first|((with_reducible refine ac (f:=17) rfl ?_);refine kg (some 47) rfl rfl Try.func17 (by kernel_rfl) rfl #[.int .i64 a0,.int .i64 a2] rfl ?_;(with_reducible refine (rate_Month_s.calls a0 a2 j none _ J.out).mono ?_);rintro e w' ⟨rfl,⟨nd,rfl⟩⟩;refine ⟨_,rfl,?_⟩;(try simp only [aa,ab]))|((with_reducible refine ac (f:=17) rfl ?_);refine kg (some 56) rfl rfl Try.func17 (by kernel_rfl) rfl #[.int .i64 a0,.int .i64 a3] rfl ?_;(with_reducible refine (rate_Month_s.calls a0 a3 A (some q431) _ R.out).mono ?_);rintro e w' ⟨rfl,⟨nd,rfl⟩⟩;refine ⟨_,rfl,?_⟩;(try simp only [aa,ab])))
       refine bodyPost_ret (al (rs:=[.tmp 8,.tmp 9,.tmp 10,.tmp 11]) rfl (by simp) (.tmp (.tmp (.tmp (.tmp .nil))))) rfl ?_;exact ⟨by first|rfl|(simp [aa,ab] <;> rfl)|(simp [*,aa,ab] <;> rfl),by repeat (first|(with_reducible first|exact HB.out|apply kc1|apply kc2|apply kc3)|exact HB.out)⟩
     ·have H1 : (some (0,0,0,some q428)) = some (r1,r2,r3,r4):=by rw [if_neg (show ¬ (some q428).isNone = true by simp)] at H;exact H
      clear H;have H:=H1;clear H1;try simp only [aa,ab]
      simp only [af,Prod.mk.injEq] at H
      obtain ⟨rfl,rfl,rfl,rfl⟩:=H;go_wp2_with (first|((with_reducible refine ac (f:=17) rfl ?_);refine kg (some 47) rfl rfl Try.func17 (by kernel_rfl) rfl #[.int .i64 a0,.int .i64 a2] rfl ?_;(with_reducible refine (rate_Month_s.calls a0 a2 j (some q428) _ J.out).mono ?_);rintro e w' ⟨rfl,⟨nd,rfl⟩⟩;refine ⟨_,rfl,?_⟩;(try simp only [aa,ab])))
      refine bodyPost_ret (al (rs:=[.tmp 8,.tmp 9,.tmp 10,.tmp 11]) rfl (by simp) (.tmp (.tmp (.tmp (.tmp .nil))))) rfl ?_;exact ⟨by first|rfl|(simp [aa,ab] <;> rfl)|(simp [*,aa,ab] <;> rfl),by repeat (first|(with_reducible first|exact HB.out|apply kc1|apply kc2|apply kc3)|exact HB.out)⟩
 ·have H1 : (some (0,0,0,some q425)) = some (r1,r2,r3,r4):=by rw [if_neg (show ¬ (some q425).isNone = true by simp)] at H;exact H
  clear H;have H:=H1;clear H1;try simp only [aa,ab]
  simp only [af,Prod.mk.injEq] at H
  obtain ⟨rfl,rfl,rfl,rfl⟩:=H;go_enter Try.func9,Try.ntmps9
  go_wp2_with (first|((with_reducible refine ac (f:=17) rfl ?_);refine kg (some 19) rfl rfl Try.func17 (by kernel_rfl) rfl #[.int .i64 a0,.int .i64 a1] rfl ?_;(with_reducible refine (rate_Month_s.calls a0 a1 d (some q425) _ Z.out).mono ?_);rintro e w' ⟨rfl,⟨nd,rfl⟩⟩;refine ⟨_,rfl,?_⟩;(try simp only [aa,ab])))
  refine bodyPost_ret (al (rs:=[.tmp 8,.tmp 9,.tmp 10,.tmp 11]) rfl (by simp) (.tmp (.tmp (.tmp (.tmp .nil))))) rfl ?_;exact ⟨by first|rfl|(simp [aa,ab] <;> rfl)|(simp [*,aa,ab] <;> rfl),by repeat (first|(with_reducible first|exact HB.out|apply kc1|apply kc2|apply kc3)|exact HB.out)⟩
theorem pool_Strip.tells (b r f g : Int) (hr : ai r) (hf : ai f) (hg : ai g) (k : Nat) (hk : 1≤k) : pool_Strip.f k b r f g =
  some (if aq b r f g then (M.net b r f g,au b r f,av b r f g,none) else (0,0,0,some 1)):=by
 obtain ⟨k,rfl⟩ : ∃ m,k = m + 1:=⟨k - 1,by omega⟩
 unfold ai at hr hf hg
 unfold pool_Strip.f
 by_cases h : ao b r
 ·rw [rate_Month_s.yes h,ad]
  simp only [Option.isNone_none,if_true]
  have out : ¬ aq b r f g→pool_Strip.j0 (k + 1) b f g (aj b r) true = some (if aq b r f g then (M.net b r f g,au b r f,av b r f g,none) else (0,0,0,some 1)):=by
   intro hn;rw [if_neg hn]
   simp [pool_Strip.j0]
  have h4:=h.2.2.1;have h5:=h.2.2.2;by_cases h1 : f < 0
  ·rw [if_pos h1];exact out (fun hh=>by have:=hh.2.1;omega)
  rw [if_neg h1]
  by_cases h2 : g < 0
  ·rw [if_pos h2];exact out (fun hh=>by have:=hh.2.2.1;omega)
  rw [if_neg h2]
  by_cases h3 : f > r
  ·rw [if_pos h3];exact out (fun hh=>by have:=hh.2.2;omega)
  rw [if_neg h3,M.w64_id (n:=r - f) (by omega) (by omega)]
  by_cases h6 : g > r - f
  ·rw [decide_eq_true h6];exact out (fun hh=>by have:=hh.2.2;omega)
  rw [decide_eq_false h6]
  have hok : aq b r f g:=⟨h,by omega,by omega,by omega⟩
  have hmf : ao b f:=⟨h.1,h.2.1,by omega,by omega⟩
  have hmg : ao b g:=⟨h.1,h.2.1,by omega,by omega⟩
  simp only [pool_Strip.j0]
  rw [if_neg (by decide),rate_Month_s.yes hmf,ad]
  simp only [Option.isNone_none,if_true]
  rw [rate_Month_s.yes hmg,ad,if_pos hok]
  simp only [Option.isNone_none,if_true]
  obtain ⟨s1,s2,s3,s4,s5,s6⟩:=M.strip_bd hok;have e1 : mn (aj b f) (aj b r) = au b r f:=by unfold mn au M.least;split <;> split <;> omega
  rw [e1,M.w64_id (n:=aj b r - au b r f) (by omega) (by omega)]
  have e2 : mn (aj b g) (aj b r - au b r f) = av b r f g:=by unfold mn av M.least;split <;> split <;> omega
  rw [e2,M.w64_id (n:=aj b r - au b r f - av b r f g) (by omega) (by omega)]
  rfl
 ·rw [rate_Month_s.no h,if_neg (fun hh=>h hh.1)]
  rfl
def pool_Strip_s.f (b r f g : Int) : Option (Int × Int × Int × Option Int):=
 if ai r∧ai f∧ai g then some (if aq b r f g then (M.net b r f g,au b r f,av b r f g,none) else (0,0,0,some 1)) else none
theorem pool_Strip_s.calls (a0 : Int) (a1 : Int) (a2 : Int) (a3 : Int) (r1 : Int) (r2 : Int) (r3 : Int) (r4 : Option Int) (w : World) (h : pool_Strip_s.f a0 a1 a2 a3 = some (r1,r2,r3,r4)) :
  Calls Try.prog 9 #[.int .i64 a0,.int .i64 a1,.int .i64 a2,.int .i64 a3] w fun e w'=>e = .returned (.tuple #[.int .i64 r1,.int .i64 r2,.int .i64 r3,errW r4])∧Below w.heap.size w w':=by
 unfold pool_Strip_s.f at h
 split at h
 ·rename_i hr
  exact pool_Strip.calls 1 a0 a1 a2 a3 r1 r2 r3 r4 w ((pool_Strip.tells a0 a1 a2 a3 hr.1 hr.2.1 hr.2.2 1 (ak _)).trans h)
 ·cases h
def trivetlaw18_up.f  : Option (Bool):=(pool_Strip_s.f 12000000 60000 2500 0).bind fun y=>((pool_Strip_s.f 0 0 1 0).bind fun B=>(if y.2.2.2.isNone = true then (if y.1 = 57500 then (if y.2.1 = 2500 then (if y.2.2.1 = 0 then (if B.2.2.2.isNone = true then (some false) else (some ((B.2.2.2.getD 0) == 1))) else (some false)) else (some false)) else (some false)) else (some false)))
theorem trivetlaw18_up.calls  (r : Bool) (w : World) (h : trivetlaw18_up.f  = some r) :
  Calls Try.prog 8 #[] w fun e w'=>e = .returned (.bool r)∧Below w.heap.size w w':=by
 have hu24:=Try.underlying24;have hu29:=Try.underlying29;have HB:=ka (Below.refl w.heap.size w);have H : ((pool_Strip_s.f 12000000 60000 2500 0).bind fun y=>((pool_Strip_s.f 0 0 1 0).bind fun B=>(if y.2.2.2.isNone = true then (if y.1 = 57500 then (if y.2.1 = 2500 then (if y.2.2.1 = 0 then (if B.2.2.2.isNone = true then (some false) else (some ((B.2.2.2.getD 0) == 1))) else (some false)) else (some false)) else (some false)) else (some false)))) = some r:=h;clear h;replace H:=ae.mp H;obtain ⟨⟨s,u,x,Q⟩,a5,H⟩:=H;replace H : ((pool_Strip_s.f 0 0 1 0).bind fun B=>(if Q.isNone = true then (if s = 57500 then (if u = 2500 then (if x = 0 then (if B.2.2.2.isNone = true then (some false) else (some ((B.2.2.2.getD 0) == 1))) else (some false)) else (some false)) else (some false)) else (some false))) = some r:=H;have S:=ka a5;clear a5;replace H:=ae.mp H;obtain ⟨⟨E,F,G,C⟩,a6,H⟩:=H;replace H : (if Q.isNone = true then (if s = 57500 then (if u = 2500 then (if x = 0 then (if C.isNone = true then (some false) else (some ((C.getD 0) == 1))) else (some false)) else (some false)) else (some false)) else (some false)) = some r:=H;have T:=ka a6;clear a6;rcases Q with _|q440
 ·have H1 : (if s = 57500 then (if u = 2500 then (if x = 0 then (if C.isNone = true then (some false) else (some ((C.getD 0) == 1))) else (some false)) else (some false)) else (some false)) = some r:=by rw [if_pos (show (none : Option Int).isNone = true by rfl)] at H;exact H
  clear H;have H:=H1;clear H1;try simp only [aa,ab]
  by_cases c3 : s = 57500
  ·rw [if_pos c3] at H
   have c3b0 : (s == 57500) = true:=beq_iff_eq.mpr c3;have c3b1 : (s != 57500) = false:=bne_eq_false_iff_eq.mpr c3;clear c3;by_cases c4 : u = 2500
   ·rw [if_pos c4] at H
    have c4b0 : (u == 2500) = true:=beq_iff_eq.mpr c4;have c4b1 : (u != 2500) = false:=bne_eq_false_iff_eq.mpr c4;clear c4;by_cases c5 : x = 0
    ·rw [if_pos c5] at H
     have c5b0 : (x == 0) = true:=beq_iff_eq.mpr c5;have c5b1 : (x != 0) = false:=bne_eq_false_iff_eq.mpr c5;clear c5;rcases C with _|q441
     ·have H1 : (some false) = some r:=by rw [if_pos (show (none : Option Int).isNone = true by rfl)] at H;exact H
      clear H;have H:=H1;clear H1;try simp only [aa,ab]
      obtain rfl:=Option.some.inj H;go_enter Try.func8,Try.ntmps8
      go_wp2_with (first|((with_reducible refine ac (f:=9) rfl ?_);refine kg (some 10) rfl rfl Try.func9 (by kernel_rfl) rfl #[.int .i64 12000000,.int .i64 60000,.int .i64 2500,.int .i64 0] rfl ?_;(with_reducible refine (pool_Strip_s.calls 12000000 60000 2500 0 s u x none _ S.out).mono ?_);rintro e w6 ⟨rfl,hb⟩;refine ⟨_,rfl,?_⟩;replace HB:=ka (ag (kw HB.out) hb);(try clear hb);(try simp only [aa,ab]))|((with_reducible refine ac (f:=9) rfl ?_);refine kg (some 16) rfl rfl Try.func9 (by kernel_rfl) rfl #[.int .i64 0,.int .i64 0,.int .i64 1,.int .i64 0] rfl ?_;(with_reducible refine (pool_Strip_s.calls 0 0 1 0 E F G none _ T.out).mono ?_);rintro e w7 ⟨rfl,hb⟩;refine ⟨_,rfl,?_⟩;replace HB:=ka (ag (kw HB.out) hb);(try clear hb);(try simp only [aa,ab])))
      go_ret
      exact ⟨by first|rfl|(simp [aa,ab] <;> rfl)|(simp [*,aa,ab] <;> rfl),by repeat (first|(with_reducible first|exact HB.out|apply kc1|apply kc2|apply kc3)|exact HB.out)⟩
     ·have H1 : (some (q441 == 1)) = some r:=by rw [if_neg (show ¬ (some q441).isNone = true by simp)] at H;exact H
      clear H;have H:=H1;clear H1;try simp only [aa,ab]
      obtain rfl:=Option.some.inj H;go_enter Try.func8,Try.ntmps8
      go_wp2_with (first|((with_reducible refine ac (f:=9) rfl ?_);refine kg (some 10) rfl rfl Try.func9 (by kernel_rfl) rfl #[.int .i64 12000000,.int .i64 60000,.int .i64 2500,.int .i64 0] rfl ?_;(with_reducible refine (pool_Strip_s.calls 12000000 60000 2500 0 s u x none _ S.out).mono ?_);rintro e w8 ⟨rfl,hb⟩;refine ⟨_,rfl,?_⟩;replace HB:=ka (ag (kw HB.out) hb);(try clear hb);(try simp only [aa,ab]))|((with_reducible refine ac (f:=9) rfl ?_);refine kg (some 16) rfl rfl Try.func9 (by kernel_rfl) rfl #[.int .i64 0,.int .i64 0,.int .i64 1,.int .i64 0] rfl ?_;(with_reducible refine (pool_Strip_s.calls 0 0 1 0 E F G (some q441) _ T.out).mono ?_);rintro e w9 ⟨rfl,hb⟩;refine ⟨_,rfl,?_⟩;replace HB:=ka (ag (kw HB.out) hb);(try clear hb);(try simp only [aa,ab])))
      go_ret
      exact ⟨by first|rfl|(simp [aa,ab] <;> rfl)|(simp [*,aa,ab] <;> rfl),by repeat (first|(with_reducible first|exact HB.out|apply kc1|apply kc2|apply kc3)|exact HB.out)⟩
    ·rw [if_neg c5] at H
     have c5b0 : (x == 0) = false:=beq_eq_false_iff_ne.mpr c5;have c5b1 : (x != 0) = true:=bne_iff_ne.mpr c5;obtain rfl:=Option.some.inj H;go_enter Try.func8,Try.ntmps8
     go_wp2_with (first|((with_reducible refine ac (f:=9) rfl ?_);refine kg (some 10) rfl rfl Try.func9 (by kernel_rfl) rfl #[.int .i64 12000000,.int .i64 60000,.int .i64 2500,.int .i64 0] rfl ?_;(with_reducible refine (pool_Strip_s.calls 12000000 60000 2500 0 s u x none _ S.out).mono ?_);rintro e b0 ⟨rfl,hb⟩;refine ⟨_,rfl,?_⟩;replace HB:=ka (ag (kw HB.out) hb);(try clear hb);(try simp only [aa,ab]))|((with_reducible refine ac (f:=9) rfl ?_);refine kg (some 16) rfl rfl Try.func9 (by kernel_rfl) rfl #[.int .i64 0,.int .i64 0,.int .i64 1,.int .i64 0] rfl ?_;(with_reducible refine (pool_Strip_s.calls 0 0 1 0 E F G C _ T.out).mono ?_);rintro e b1 ⟨rfl,hb⟩;refine ⟨_,rfl,?_⟩;replace HB:=ka (ag (kw HB.out) hb);(try clear hb);(try simp only [aa,ab])))
     go_ret
     exact ⟨by first|rfl|(simp [aa,ab] <;> rfl)|(simp [*,aa,ab] <;> rfl),by repeat (first|(with_reducible first|exact HB.out|apply kc1|apply kc2|apply kc3)|exact HB.out)⟩
   ·rw [if_neg c4] at H
    have c4b0 : (u == 2500) = false:=beq_eq_false_iff_ne.mpr c4;have c4b1 : (u != 2500) = true:=bne_iff_ne.mpr c4;obtain rfl:=Option.some.inj H;go_enter Try.func8,Try.ntmps8
    go_wp2_with (first|((with_reducible refine ac (f:=9) rfl ?_);refine kg (some 10) rfl rfl Try.func9 (by kernel_rfl) rfl #[.int .i64 12000000,.int .i64 60000,.int .i64 2500,.int .i64 0] rfl ?_;(with_reducible refine (pool_Strip_s.calls 12000000 60000 2500 0 s u x none _ S.out).mono ?_);rintro e b2 ⟨rfl,hb⟩;refine ⟨_,rfl,?_⟩;replace HB:=ka (ag (kw HB.out) hb);(try clear hb);(try simp only [aa,ab]))|((with_reducible refine ac (f:=9) rfl ?_);refine kg (some 16) rfl rfl Try.func9 (by kernel_rfl) rfl #[.int .i64 0,.int .i64 0,.int .i64 1,.int .i64 0] rfl ?_;(with_reducible refine (pool_Strip_s.calls 0 0 1 0 E F G C _ T.out).mono ?_);rintro e b3 ⟨rfl,hb⟩;refine ⟨_,rfl,?_⟩;replace HB:=ka (ag (kw HB.out) hb);(try clear hb);(try simp only [aa,ab])))
    go_ret
    exact ⟨by first|rfl|(simp [aa,ab] <;> rfl)|(simp [*,aa,ab] <;> rfl),by repeat (first|(with_reducible first|exact HB.out|apply kc1|apply kc2|apply kc3)|exact HB.out)⟩
  ·rw [if_neg c3] at H
   have c3b0 : (s == 57500) = false:=beq_eq_false_iff_ne.mpr c3;have c3b1 : (s != 57500) = true:=bne_iff_ne.mpr c3;obtain rfl:=Option.some.inj H;go_enter Try.func8,Try.ntmps8
   go_wp2_with (first|((with_reducible refine ac (f:=9) rfl ?_);refine kg (some 10) rfl rfl Try.func9 (by kernel_rfl) rfl #[.int .i64 12000000,.int .i64 60000,.int .i64 2500,.int .i64 0] rfl ?_;(with_reducible refine (pool_Strip_s.calls 12000000 60000 2500 0 s u x none _ S.out).mono ?_);rintro e b4 ⟨rfl,hb⟩;refine ⟨_,rfl,?_⟩;replace HB:=ka (ag (kw HB.out) hb);(try clear hb);(try simp only [aa,ab]))|((with_reducible refine ac (f:=9) rfl ?_);refine kg (some 16) rfl rfl Try.func9 (by kernel_rfl) rfl #[.int .i64 0,.int .i64 0,.int .i64 1,.int .i64 0] rfl ?_;(with_reducible refine (pool_Strip_s.calls 0 0 1 0 E F G C _ T.out).mono ?_);rintro e b5 ⟨rfl,hb⟩;refine ⟨_,rfl,?_⟩;replace HB:=ka (ag (kw HB.out) hb);(try clear hb);(try simp only [aa,ab])))
   go_ret
   exact ⟨by first|rfl|(simp [aa,ab] <;> rfl)|(simp [*,aa,ab] <;> rfl),by repeat (first|(with_reducible first|exact HB.out|apply kc1|apply kc2|apply kc3)|exact HB.out)⟩
 ·have H1 : (some false) = some r:=by rw [if_neg (show ¬ (some q440).isNone = true by simp)] at H;exact H
  clear H;have H:=H1;clear H1;try simp only [aa,ab]
  obtain rfl:=Option.some.inj H;go_enter Try.func8,Try.ntmps8
  go_wp2_with (first|((with_reducible refine ac (f:=9) rfl ?_);refine kg (some 10) rfl rfl Try.func9 (by kernel_rfl) rfl #[.int .i64 12000000,.int .i64 60000,.int .i64 2500,.int .i64 0] rfl ?_;(with_reducible refine (pool_Strip_s.calls 12000000 60000 2500 0 s u x (some q440) _ S.out).mono ?_);rintro e b6 ⟨rfl,hb⟩;refine ⟨_,rfl,?_⟩;replace HB:=ka (ag (kw HB.out) hb);(try clear hb);(try simp only [aa,ab]))|((with_reducible refine ac (f:=9) rfl ?_);refine kg (some 16) rfl rfl Try.func9 (by kernel_rfl) rfl #[.int .i64 0,.int .i64 0,.int .i64 1,.int .i64 0] rfl ?_;(with_reducible refine (pool_Strip_s.calls 0 0 1 0 E F G C _ T.out).mono ?_);rintro e b7 ⟨rfl,hb⟩;refine ⟨_,rfl,?_⟩;replace HB:=ka (ag (kw HB.out) hb);(try clear hb);(try simp only [aa,ab])))
  go_ret
  exact ⟨by first|rfl|(simp [aa,ab] <;> rfl)|(simp [*,aa,ab] <;> rfl),by repeat (first|(with_reducible first|exact HB.out|apply kc1|apply kc2|apply kc3)|exact HB.out)⟩
theorem trivetlaw18_up.tells : trivetlaw18_up.f = some true:=by decide +kernel
def trivetlaw18_up_s.f : Option Bool:=some true
theorem trivetlaw18_up_s.calls (r : Bool) (w : World) (h : trivetlaw18_up_s.f = some r) :
  Calls Try.prog 8 #[] w fun e w'=>e = .returned (.bool r)∧Below w.heap.size w w':=trivetlaw18_up.calls r w (trivetlaw18_up.tells.trans h)
end Go.Proofs.Ytghimjkoaldafaa.P
