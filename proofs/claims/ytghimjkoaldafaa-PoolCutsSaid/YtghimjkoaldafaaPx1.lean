-- Written by a program of this session out of the translation of the seat: Lean functions and the proofs that the Go functions come to them.
import Derived.Test.YtghimjkoaldafaaPx0
namespace Go.Proofs.Ytghimjkoaldafaa.P
open Go.RowKit Go.Proofs.YtghimjkoaldafaaW.PrintWords Go.Proofs.YtghimjkoaldafaaW.PrintLast Go.Proofs.YtghimjkoaldafaaW.PrintMore
open Go.IntKind renaming u64 → aa
open Go.Proofs.YtghimjkoaldafaaW.PrintWords.Drawn0 renaming refl → ab, step → ac
open Go.Proofs.YtghimjkoaldafaaW.PrintWords renaming gate_callee → ad, Aside0 → al
open Option.some renaming injEq → ae
open Option renaming bind_eq_some_iff → af
open Bool renaming eq_false_iff → ag
open List renaming setIfInBounds_toArray → ah, set_cons_zero → aj, set_cons_succ → ak
open Nat renaming le_refl → ai
set_option maxHeartbeats 8000000
set_option maxRecDepth 100000
attribute [local go_sem] max2_int min2_int max_two min_two max_three min_three max_four min_four   -- for this text's walks alone
set_option linter.unusedVariables false
set_option linter.unusedSimpArgs false
def cmp_isNaN_uint64.f (a0 : Int) : Option (Bool):=some (a0 != a0)
theorem cmp_isNaN_uint64.calls (a0 : Int) (r : Bool) (w : World) (h : cmp_isNaN_uint64.f a0 = some r) :
  Calls Try.prog 46 #[.int .u64 a0] w fun e w'=>e = .returned (.bool r)∧Drawn0 w w':=by
 have H : (some (a0 != a0)) = some r:=h;clear h;obtain rfl:=Option.some.inj H;go_enter Try.func46,Try.ntmps46
 go_wp2
 go_ret
 exact ⟨by first|rfl|(simp;done)|(simp [*];done),by repeat (first|exact ab _|apply ac)⟩
def cmp_Compare_uint64.f (a0 : Int) (a1 : Int) : Option (Int):=(cmp_isNaN_uint64.f a0).bind fun j=>((cmp_isNaN_uint64.f a1).bind fun i=>(if j = true then (if i = true then (some 0) else (some (-1))) else (if i = true then (some 1) else (if a0 < a1 then (some (-1)) else (if a0 > a1 then (some 1) else (some 0))))))
theorem cmp_Compare_uint64.calls (a0 : Int) (a1 : Int) (r : Int) (w : World) (h : cmp_Compare_uint64.f a0 a1 = some r) :
  Calls Try.prog 38 #[.int .u64 a0,.int .u64 a1] w fun e w'=>e = .returned (.int .i64 r)∧Drawn0 w w':=by
 have H : ((cmp_isNaN_uint64.f a0).bind fun j=>((cmp_isNaN_uint64.f a1).bind fun i=>(if j = true then (if i = true then (some 0) else (some (-1))) else (if i = true then (some 1) else (if a0 < a1 then (some (-1)) else (if a0 > a1 then (some 1) else (some 0))))))) = some r:=h;clear h;replace H:=af.mp H;obtain ⟨j,D,H⟩:=H;replace H : ((cmp_isNaN_uint64.f a1).bind fun i=>(if j = true then (if i = true then (some 0) else (some (-1))) else (if i = true then (some 1) else (if a0 < a1 then (some (-1)) else (if a0 > a1 then (some 1) else (some 0)))))) = some r:=H;have u:=ka D;clear D;replace H:=af.mp H;obtain ⟨i,E,H⟩:=H;replace H : (if j = true then (if i = true then (some 0) else (some (-1))) else (if i = true then (some 1) else (if a0 < a1 then (some (-1)) else (if a0 > a1 then (some 1) else (some 0))))) = some r:=H;have v:=ka E;clear E;by_cases c5 : j = true
 ·subst c5;have H1 : (if i = true then (some 0) else (some (-1))) = some r:=by rw [if_pos rfl] at H;exact H
  clear H;have H:=H1;clear H1;by_cases c6 : i = true
  ·subst c6;have H1 : (some 0) = some r:=by rw [if_pos rfl] at H;exact H
   clear H;have H:=H1;clear H1;obtain rfl:=Option.some.inj H;go_enter Try.func38,Try.ntmps38
   go_wp2_with (first|((with_reducible refine ad (f:=46) rfl ?_);refine kg (some 8) rfl rfl Try.func46 (by kernel_rfl) rfl #[.int .u64 a0] rfl ?_;(with_reducible refine (cmp_isNaN_uint64.calls a0 true _ u.out).mono ?_);rintro e w' ⟨rfl,⟨nd,rfl⟩⟩;refine ⟨_,rfl,?_⟩)|((with_reducible refine ad (f:=46) rfl ?_);refine kg (some 10) rfl rfl Try.func46 (by kernel_rfl) rfl #[.int .u64 a1] rfl ?_;(with_reducible refine (cmp_isNaN_uint64.calls a1 true _ v.out).mono ?_);rintro e w' ⟨rfl,⟨nd,rfl⟩⟩;refine ⟨_,rfl,?_⟩))
   go_ret
   exact ⟨by first|rfl|(simp;done)|(simp [*];done),by repeat (first|exact ab _|apply ac)⟩
  ·replace c6:=ag.mpr c6;subst c6;have H1 : (some (-1)) = some r:=by rw [if_neg (show ¬ (false = true) by decide)] at H;exact H
   clear H;have H:=H1;clear H1;obtain rfl:=Option.some.inj H;go_enter Try.func38,Try.ntmps38
   go_wp2_with (first|((with_reducible refine ad (f:=46) rfl ?_);refine kg (some 8) rfl rfl Try.func46 (by kernel_rfl) rfl #[.int .u64 a0] rfl ?_;(with_reducible refine (cmp_isNaN_uint64.calls a0 true _ u.out).mono ?_);rintro e w' ⟨rfl,⟨nd,rfl⟩⟩;refine ⟨_,rfl,?_⟩)|((with_reducible refine ad (f:=46) rfl ?_);refine kg (some 10) rfl rfl Try.func46 (by kernel_rfl) rfl #[.int .u64 a1] rfl ?_;(with_reducible refine (cmp_isNaN_uint64.calls a1 false _ v.out).mono ?_);rintro e w' ⟨rfl,⟨nd,rfl⟩⟩;refine ⟨_,rfl,?_⟩))
   go_ret
   exact ⟨by first|rfl|(simp;done)|(simp [*];done),by repeat (first|exact ab _|apply ac)⟩
 ·replace c5:=ag.mpr c5;subst c5;have H1 : (if i = true then (some 1) else (if a0 < a1 then (some (-1)) else (if a0 > a1 then (some 1) else (some 0)))) = some r:=by rw [if_neg (show ¬ (false = true) by decide)] at H;exact H
  clear H;have H:=H1;clear H1;by_cases c7 : i = true
  ·subst c7;have H1 : (some 1) = some r:=by rw [if_pos rfl] at H;exact H
   clear H;have H:=H1;clear H1;obtain rfl:=Option.some.inj H;go_enter Try.func38,Try.ntmps38
   go_wp2_with (first|((with_reducible refine ad (f:=46) rfl ?_);refine kg (some 8) rfl rfl Try.func46 (by kernel_rfl) rfl #[.int .u64 a0] rfl ?_;(with_reducible refine (cmp_isNaN_uint64.calls a0 false _ u.out).mono ?_);rintro e w' ⟨rfl,⟨nd,rfl⟩⟩;refine ⟨_,rfl,?_⟩)|((with_reducible refine ad (f:=46) rfl ?_);refine kg (some 10) rfl rfl Try.func46 (by kernel_rfl) rfl #[.int .u64 a1] rfl ?_;(with_reducible refine (cmp_isNaN_uint64.calls a1 true _ v.out).mono ?_);rintro e w' ⟨rfl,⟨nd,rfl⟩⟩;refine ⟨_,rfl,?_⟩))
   go_ret
   exact ⟨by first|rfl|(simp;done)|(simp [*];done),by repeat (first|exact ab _|apply ac)⟩
  ·replace c7:=ag.mpr c7;subst c7;have H1 : (if a0 < a1 then (some (-1)) else (if a0 > a1 then (some 1) else (some 0))) = some r:=by rw [if_neg (show ¬ (false = true) by decide)] at H;exact H
   clear H;have H:=H1;clear H1;by_cases c8 : a0 < a1
   ·rw [if_pos c8] at H
    have c8b0 : decide (a0 < a1) = true:=decide_eq_true c8;clear c8;obtain rfl:=Option.some.inj H;go_enter Try.func38,Try.ntmps38
    go_wp2_with (first|((with_reducible refine ad (f:=46) rfl ?_);refine kg (some 8) rfl rfl Try.func46 (by kernel_rfl) rfl #[.int .u64 a0] rfl ?_;(with_reducible refine (cmp_isNaN_uint64.calls a0 false _ u.out).mono ?_);rintro e w' ⟨rfl,⟨nd,rfl⟩⟩;refine ⟨_,rfl,?_⟩)|((with_reducible refine ad (f:=46) rfl ?_);refine kg (some 10) rfl rfl Try.func46 (by kernel_rfl) rfl #[.int .u64 a1] rfl ?_;(with_reducible refine (cmp_isNaN_uint64.calls a1 false _ v.out).mono ?_);rintro e w' ⟨rfl,⟨nd,rfl⟩⟩;refine ⟨_,rfl,?_⟩))
    go_ret
    exact ⟨by first|rfl|(simp;done)|(simp [*];done),by repeat (first|exact ab _|apply ac)⟩
   ·rw [if_neg c8] at H
    have c8b0 : decide (a0 < a1) = false:=decide_eq_false c8;clear c8;by_cases c9 : a0 > a1
    ·rw [if_pos c9] at H
     have c9b0 : decide (a1 < a0) = true:=decide_eq_true c9;clear c9;obtain rfl:=Option.some.inj H;go_enter Try.func38,Try.ntmps38
     go_wp2_with (first|((with_reducible refine ad (f:=46) rfl ?_);refine kg (some 8) rfl rfl Try.func46 (by kernel_rfl) rfl #[.int .u64 a0] rfl ?_;(with_reducible refine (cmp_isNaN_uint64.calls a0 false _ u.out).mono ?_);rintro e w' ⟨rfl,⟨nd,rfl⟩⟩;refine ⟨_,rfl,?_⟩)|((with_reducible refine ad (f:=46) rfl ?_);refine kg (some 10) rfl rfl Try.func46 (by kernel_rfl) rfl #[.int .u64 a1] rfl ?_;(with_reducible refine (cmp_isNaN_uint64.calls a1 false _ v.out).mono ?_);rintro e w' ⟨rfl,⟨nd,rfl⟩⟩;refine ⟨_,rfl,?_⟩))
     go_ret
     exact ⟨by first|rfl|(simp;done)|(simp [*];done),by repeat (first|exact ab _|apply ac)⟩
    ·rw [if_neg c9] at H
     have c9b0 : decide (a1 < a0) = false:=decide_eq_false c9;clear c9;obtain rfl:=Option.some.inj H;go_enter Try.func38,Try.ntmps38
     go_wp2_with (first|((with_reducible refine ad (f:=46) rfl ?_);refine kg (some 8) rfl rfl Try.func46 (by kernel_rfl) rfl #[.int .u64 a0] rfl ?_;(with_reducible refine (cmp_isNaN_uint64.calls a0 false _ u.out).mono ?_);rintro e w' ⟨rfl,⟨nd,rfl⟩⟩;refine ⟨_,rfl,?_⟩)|((with_reducible refine ad (f:=46) rfl ?_);refine kg (some 10) rfl rfl Try.func46 (by kernel_rfl) rfl #[.int .u64 a1] rfl ?_;(with_reducible refine (cmp_isNaN_uint64.calls a1 false _ v.out).mono ?_);rintro e w' ⟨rfl,⟨nd,rfl⟩⟩;refine ⟨_,rfl,?_⟩))
     go_ret
     exact ⟨by first|rfl|(simp;done)|(simp [*];done),by repeat (first|exact ab _|apply ac)⟩
def cents_size.f (a0 : Int) : Option (Int × Bool):=if a0 < 0 then (some (aa.wrap (-(aa.wrap (a0))),true)) else (some (aa.wrap (a0),false))
theorem cents_size.calls (a0 : Int) (r1 : Int) (r2 : Bool) (w : World) (h : cents_size.f a0 = some (r1,r2)) :
  Calls Try.prog 31 #[.int .i64 a0] w fun e w'=>e = .returned (.tuple #[.int .u64 r1,.bool r2])∧Drawn0 w w':=by
 have H : (if a0 < 0 then (some (aa.wrap (-(aa.wrap (a0))),true)) else (some (aa.wrap (a0),false))) = some (r1,r2):=h;clear h;by_cases c2 : a0 < 0
 ·rw [if_pos c2] at H
  have c2b0 : decide (a0 < 0) = true:=decide_eq_true c2;clear c2;simp only [ae,Prod.mk.injEq] at H
  obtain ⟨rfl,rfl⟩:=H;go_enter Try.func31,Try.ntmps31
  go_wp2
  go_ret2
  exact ⟨by first|rfl|(simp;done)|(simp [*];done),by repeat (first|exact ab _|apply ac)⟩
 ·rw [if_neg c2] at H
  have c2b0 : decide (a0 < 0) = false:=decide_eq_false c2;clear c2;simp only [ae,Prod.mk.injEq] at H
  obtain ⟨rfl,rfl⟩:=H;go_enter Try.func31,Try.ntmps31
  go_wp2
  go_ret2
  exact ⟨by first|rfl|(simp;done)|(simp [*];done),by repeat (first|exact ab _|apply ac)⟩
def bits_Mul64.f (a0 : Int) (a1 : Int) : Option (Int × Int):=some (aa.wrap ((aa.wrap ((aa.wrap ((a0 / 4294967296) * (a1 / 4294967296))) + ((aa.wrap ((aa.wrap ((a0 / 4294967296) * (Go.bits .and .u64 a1 4294967295))) + ((aa.wrap ((Go.bits .and .u64 a0 4294967295) * (Go.bits .and .u64 a1 4294967295))) / 4294967296))) / 4294967296))) + ((aa.wrap ((Go.bits .and .u64 (aa.wrap ((aa.wrap ((a0 / 4294967296) * (Go.bits .and .u64 a1 4294967295))) + ((aa.wrap ((Go.bits .and .u64 a0 4294967295) * (Go.bits .and .u64 a1 4294967295))) / 4294967296))) 4294967295) + (aa.wrap ((Go.bits .and .u64 a0 4294967295) * (a1 / 4294967296))))) / 4294967296)),aa.wrap (a0 * a1))
theorem bits_Mul64.calls (a0 : Int) (a1 : Int) (r1 : Int) (r2 : Int) (w : World) (h : bits_Mul64.f a0 a1 = some (r1,r2)) :
  Calls Try.prog 32 #[.int .u64 a0,.int .u64 a1] w fun e w'=>e = .returned (.tuple #[.int .u64 r1,.int .u64 r2])∧Drawn0 w w':=by
 have H : (some (aa.wrap ((aa.wrap ((aa.wrap ((a0 / 4294967296) * (a1 / 4294967296))) + ((aa.wrap ((aa.wrap ((a0 / 4294967296) * (Go.bits .and .u64 a1 4294967295))) + ((aa.wrap ((Go.bits .and .u64 a0 4294967295) * (Go.bits .and .u64 a1 4294967295))) / 4294967296))) / 4294967296))) + ((aa.wrap ((Go.bits .and .u64 (aa.wrap ((aa.wrap ((a0 / 4294967296) * (Go.bits .and .u64 a1 4294967295))) + ((aa.wrap ((Go.bits .and .u64 a0 4294967295) * (Go.bits .and .u64 a1 4294967295))) / 4294967296))) 4294967295) + (aa.wrap ((Go.bits .and .u64 a0 4294967295) * (a1 / 4294967296))))) / 4294967296)),aa.wrap (a0 * a1))) = some (r1,r2):=h;clear h;simp only [ae,Prod.mk.injEq] at H
 obtain ⟨rfl,rfl⟩:=H;go_enter Try.func32,Try.ntmps32
 go_wp2
 go_ret2
 exact ⟨by first|rfl|(simp;done)|(simp [*];done),by repeat (first|exact ab _|apply ac)⟩
theorem bits_Mul64.tells (a0 a1 : Int) (h : 0≤a0∧a0 < 18446744073709551616∧0≤a1∧a1 < 18446744073709551616) :
  bits_Mul64.f a0 a1 = some (a0 * a1 / 18446744073709551616,a0 * a1 % 18446744073709551616):=by
 obtain ⟨p0,p1,p2,p3⟩:=h;obtain ⟨x,rfl⟩:=Int.eq_ofNat_of_zero_le p0;obtain ⟨y,rfl⟩:=Int.eq_ofNat_of_zero_le p2;unfold bits_Mul64.f
 rw [M.and_low _ p0 p1,M.and_low _ p2 p3]
 obtain ⟨h1,h2,h3,h4⟩:=Go.Lib.mul64_hi x y (by omega) (by omega);have ha:=Go.Lib.half_mul_le (a:=x / 4294967296) (b:=y / 4294967296) (by omega) (by omega);have hb:=Go.Lib.half_mul_le (a:=x / 4294967296) (b:=y % 4294967296) (by omega) (by omega);have hc:=Go.Lib.half_mul_le (a:=x % 4294967296) (b:=y / 4294967296) (by omega) (by omega);have hd:=Go.Lib.half_mul_le (a:=x % 4294967296) (b:=y % 4294967296) (by omega) (by omega);have ca : (x : Int) / 4294967296 * ((y : Int) / 4294967296) = ((x / 4294967296 * (y / 4294967296) : Nat) : Int):=by simp
 have cb : (x : Int) / 4294967296 * ((y : Int) % 4294967296) = ((x / 4294967296 * (y % 4294967296) : Nat) : Int):=by simp
 have cc : (x : Int) % 4294967296 * ((y : Int) / 4294967296) = ((x % 4294967296 * (y / 4294967296) : Nat) : Int):=by simp
 have cd : (x : Int) % 4294967296 * ((y : Int) % 4294967296) = ((x % 4294967296 * (y % 4294967296) : Nat) : Int):=by simp
 have ce : (x : Int) * (y : Int) = ((x * y : Nat) : Int):=by simp
 rw [ca,cb,cc,cd,ce]
 generalize x / 4294967296 * (y / 4294967296) = a at *;generalize x / 4294967296 * (y % 4294967296) = b at *;generalize x % 4294967296 * (y / 4294967296) = c at *;generalize x % 4294967296 * (y % 4294967296) = d at *;generalize x * y = e at *;rw [M.wrapu_id (n:=(a : Int)) (by omega) (by omega),M.wrapu_id (n:=(b : Int)) (by omega) (by omega),M.wrapu_id (n:=(c : Int)) (by omega) (by omega),M.wrapu_id (n:=(d : Int)) (by omega) (by omega)]
 rw [M.wrapu_id (n:=(b : Int) + (d : Int) / 4294967296) (by omega) (by omega)]
 rw [M.and_low _ (by omega) (by omega)]
 rw [M.wrapu_id (n:=(a : Int) + ((b : Int) + (d : Int) / 4294967296) / 4294967296) (by omega) (by omega)]
 rw [M.wrapu_id (n:=((b : Int) + (d : Int) / 4294967296) % 4294967296 + (c : Int)) (by omega) (by omega)]
 rw [M.wrapu_id (by omega) (by omega),M.wrapu]
 congr 2
 omega
def bits_Mul64_s.f (a0 : Int) (a1 : Int) : Option (Int × Int):=
 if 0≤a0∧a0 < 18446744073709551616∧0≤a1∧a1 < 18446744073709551616 then some (a0 * a1 / 18446744073709551616,a0 * a1 % 18446744073709551616) else none
theorem bits_Mul64_s.calls (a0 : Int) (a1 : Int) (r1 : Int) (r2 : Int) (w : World) (h : bits_Mul64_s.f a0 a1 = some (r1,r2)) :
  Calls Try.prog 32 #[.int .u64 a0,.int .u64 a1] w fun e w'=>e = .returned (.tuple #[.int .u64 r1,.int .u64 r2])∧Drawn0 w w':=by
 unfold bits_Mul64_s.f at h
 split at h
 ·rename_i hr
  exact bits_Mul64.calls a0 a1 r1 r2 w ((bits_Mul64.tells a0 a1 hr).trans h)
 ·cases h
def bits_Len64.f (a0 : Int) : Option (Int):=if 0≤a0∧a0 < 18446744073709551616 then some (Go.Lib.bitLen a0.toNat : Int) else none
theorem bits_Len64.calls (a0 : Int) (r : Int) (w : World) (h : bits_Len64.f a0 = some r) :
  Calls Try.prog 48 #[.int .u64 a0] w fun e w'=>e = .returned (.int .i64 r)∧Drawn0 w w':=by
 unfold bits_Len64.f at h
 split at h
 ·rename_i hr
  injection h with h
  subst h;refine (B.len64 a0 w hr.1 (by omega)).mono ?_;rintro e w' ⟨rfl,rfl⟩;exact ⟨rfl,ab _⟩
 ·cases h
def bits_LeadingZeros64.f (a0 : Int) : Option (Int):=(bits_Len64.f a0).bind fun l=>(some (wrap64 (64 - l)))
theorem bits_LeadingZeros64.calls (a0 : Int) (r : Int) (w : World) (h : bits_LeadingZeros64.f a0 = some r) :
  Calls Try.prog 44 #[.int .u64 a0] w fun e w'=>e = .returned (.int .i64 r)∧Drawn0 w w':=by
 have H : ((bits_Len64.f a0).bind fun l=>(some (wrap64 (64 - l)))) = some r:=h;clear h;replace H:=af.mp H;obtain ⟨l,F,H⟩:=H;replace H : (some (wrap64 (64 - l))) = some r:=H;have L:=ka F;clear F;obtain rfl:=Option.some.inj H;go_enter Try.func44,Try.ntmps44
 go_wp2_with (first|((with_reducible refine ad (f:=48) rfl ?_);refine kg (some 4) rfl rfl Try.func48 (by kernel_rfl) rfl #[.int .u64 a0] rfl ?_;(with_reducible refine (bits_Len64.calls a0 l _ L.out).mono ?_);rintro e w' ⟨rfl,⟨nd,rfl⟩⟩;refine ⟨_,rfl,?_⟩))
 go_ret
 exact ⟨by first|rfl|(simp;done)|(simp [*];done),by repeat (first|exact ab _|apply ac)⟩
mutual
def bits_Div64.j2 : Nat→Int→Int→Int→Int→Int→Int→Int→Int→Option (Int × Int)
 | 0,_,_,_,_,_,_,_,_=>none
 | k + 1,x2,x8,x9,x10,x11,x13,x14,x15=>if x9 = 0 then (none) else (bits_Div64.l1 k x2 x8 x9 x10 x14 x15 (aa.wrap ((aa.wrap ((aa.wrap ((aa.wrap (x11 * 4294967296)) + x13)) - (aa.wrap (x15 * x2)))) - (aa.wrap ((aa.wrap (Int.tdiv (aa.wrap ((aa.wrap ((aa.wrap (x11 * 4294967296)) + x13)) - (aa.wrap (x15 * x2)))) x9)) * x9)))) (aa.wrap ((aa.wrap ((aa.wrap (x11 * 4294967296)) + x13)) - (aa.wrap (x15 * x2)))) (aa.wrap (Int.tdiv (aa.wrap ((aa.wrap ((aa.wrap (x11 * 4294967296)) + x13)) - (aa.wrap (x15 * x2)))) x9)))
def bits_Div64.l1 : Nat→Int→Int→Int→Int→Int→Int→Int→Int→Int→Option (Int × Int)
 | 0,_,_,_,_,_,_,_,_,_=>none
 | k + 1,x2,x8,x9,x10,x14,x15,x16,x17,x18=>if x18 ≥ 4294967296 then (bits_Div64.j4 k x2 x8 x9 x10 x14 x15 x16 x17 x18 true) else (bits_Div64.j4 k x2 x8 x9 x10 x14 x15 x16 x17 x18 (decide ((aa.wrap (x18 * x10)) > (aa.wrap ((aa.wrap (4294967296 * x16)) + x14)))))
def bits_Div64.j4 : Nat→Int→Int→Int→Int→Int→Int→Int→Int→Int→Bool→Option (Int × Int)
 | 0,_,_,_,_,_,_,_,_,_,_=>none
 | k + 1,x2,x8,x9,x10,x14,x15,x16,x17,x18,x113=>if x113 = true then (if (aa.wrap (x16 + x9)) ≥ 4294967296 then (if 0≤x8 then (some (aa.wrap ((aa.wrap (x15 * 4294967296)) + (aa.wrap (x18 - 1))),shr .u64 (aa.wrap ((aa.wrap ((aa.wrap (x17 * 4294967296)) + x14)) - (aa.wrap ((aa.wrap (x18 - 1)) * x2)))) x8)) else (none)) else (bits_Div64.l1 k x2 x8 x9 x10 x14 x15 (aa.wrap (x16 + x9)) x17 (aa.wrap (x18 - 1)))) else (if 0≤x8 then (some (aa.wrap ((aa.wrap (x15 * 4294967296)) + x18),shr .u64 (aa.wrap ((aa.wrap ((aa.wrap (x17 * 4294967296)) + x14)) - (aa.wrap (x18 * x2)))) x8)) else (none))
def bits_Div64.l0 : Nat→Int→Int→Int→Int→Int→Int→Int→Int→Int→Option (Int × Int)
 | 0,_,_,_,_,_,_,_,_,_=>none
 | k + 1,x2,x8,x9,x10,x11,x13,x14,x15,x16=>if x15 ≥ 4294967296 then (bits_Div64.j1 k x2 x8 x9 x10 x11 x13 x14 x15 x16 true) else (bits_Div64.j1 k x2 x8 x9 x10 x11 x13 x14 x15 x16 (decide ((aa.wrap (x15 * x10)) > (aa.wrap ((aa.wrap (4294967296 * x16)) + x13)))))
def bits_Div64.j1 : Nat→Int→Int→Int→Int→Int→Int→Int→Int→Int→Bool→Option (Int × Int)
 | 0,_,_,_,_,_,_,_,_,_,_=>none
 | k + 1,x2,x8,x9,x10,x11,x13,x14,x15,x16,x78=>if x78 = true then (if (aa.wrap (x16 + x9)) ≥ 4294967296 then (bits_Div64.j2 k x2 x8 x9 x10 x11 x13 x14 (aa.wrap (x15 - 1))) else (bits_Div64.l0 k x2 x8 x9 x10 x11 x13 x14 (aa.wrap (x15 - 1)) (aa.wrap (x16 + x9)))) else (bits_Div64.j2 k x2 x8 x9 x10 x11 x13 x14 x15)
end
def bits_Div64.f (k : Nat) (a0 : Int) (a1 : Int) (a2 : Int) : Option (Int × Int):=if a2 = 0 then (none) else (if a2≤a0 then (none) else (if a0 = 0 then (some (aa.wrap (Int.tdiv a1 a2),Int.tmod a1 a2)) else ((bits_LeadingZeros64.f a2).bind fun g=>(if 0≤(aa.wrap (g)) then (if 0≤(aa.wrap (64 - (aa.wrap (g)))) then (if ((shl .u64 a2 (aa.wrap (g))) / 4294967296) = 0 then (none) else (bits_Div64.l0 k (shl .u64 a2 (aa.wrap (g))) (aa.wrap (g)) ((shl .u64 a2 (aa.wrap (g))) / 4294967296) (Go.bits .and .u64 (shl .u64 a2 (aa.wrap (g))) 4294967295) (Go.bits .or .u64 (shl .u64 a0 (aa.wrap (g))) (shr .u64 a1 (aa.wrap (64 - (aa.wrap (g)))))) ((shl .u64 a1 (aa.wrap (g))) / 4294967296) (Go.bits .and .u64 (shl .u64 a1 (aa.wrap (g))) 4294967295) (aa.wrap (Int.tdiv (Go.bits .or .u64 (shl .u64 a0 (aa.wrap (g))) (shr .u64 a1 (aa.wrap (64 - (aa.wrap (g)))))) ((shl .u64 a2 (aa.wrap (g))) / 4294967296))) (aa.wrap ((Go.bits .or .u64 (shl .u64 a0 (aa.wrap (g))) (shr .u64 a1 (aa.wrap (64 - (aa.wrap (g)))))) - (aa.wrap ((aa.wrap (Int.tdiv (Go.bits .or .u64 (shl .u64 a0 (aa.wrap (g))) (shr .u64 a1 (aa.wrap (64 - (aa.wrap (g)))))) ((shl .u64 a2 (aa.wrap (g))) / 4294967296))) * ((shl .u64 a2 (aa.wrap (g))) / 4294967296))))))) else (none)) else (none)))))
theorem bits_Div64.calls (k : Nat) (a0 : Int) (a1 : Int) (a2 : Int) (r1 : Int) (r2 : Int) (w : World) (h : bits_Div64.f k a0 a1 a2 = some (r1,r2)) :
  Calls Try.prog 33 #[.int .u64 a0,.int .u64 a1,.int .u64 a2] w fun e w'=>e = .returned (.tuple #[.int .u64 r1,.int .u64 r2])∧Drawn0 w w':=by
 have H : (if a2 = 0 then (none) else (if a2≤a0 then (none) else (if a0 = 0 then (some (aa.wrap (Int.tdiv a1 a2),Int.tmod a1 a2)) else ((bits_LeadingZeros64.f a2).bind fun g=>(if 0≤(aa.wrap (g)) then (if 0≤(aa.wrap (64 - (aa.wrap (g)))) then (if ((shl .u64 a2 (aa.wrap (g))) / 4294967296) = 0 then (none) else (bits_Div64.l0 k (shl .u64 a2 (aa.wrap (g))) (aa.wrap (g)) ((shl .u64 a2 (aa.wrap (g))) / 4294967296) (Go.bits .and .u64 (shl .u64 a2 (aa.wrap (g))) 4294967295) (Go.bits .or .u64 (shl .u64 a0 (aa.wrap (g))) (shr .u64 a1 (aa.wrap (64 - (aa.wrap (g)))))) ((shl .u64 a1 (aa.wrap (g))) / 4294967296) (Go.bits .and .u64 (shl .u64 a1 (aa.wrap (g))) 4294967295) (aa.wrap (Int.tdiv (Go.bits .or .u64 (shl .u64 a0 (aa.wrap (g))) (shr .u64 a1 (aa.wrap (64 - (aa.wrap (g)))))) ((shl .u64 a2 (aa.wrap (g))) / 4294967296))) (aa.wrap ((Go.bits .or .u64 (shl .u64 a0 (aa.wrap (g))) (shr .u64 a1 (aa.wrap (64 - (aa.wrap (g)))))) - (aa.wrap ((aa.wrap (Int.tdiv (Go.bits .or .u64 (shl .u64 a0 (aa.wrap (g))) (shr .u64 a1 (aa.wrap (64 - (aa.wrap (g)))))) ((shl .u64 a2 (aa.wrap (g))) / 4294967296))) * ((shl .u64 a2 (aa.wrap (g))) / 4294967296))))))) else (none)) else (none)))))) = some (r1,r2):=h;clear h;by_cases c4 : a2 = 0
 ·rw [if_pos c4] at H
  exact absurd H (by simp)
 ·rw [if_neg c4] at H
  have c4b0 : (a2 == 0) = false:=beq_eq_false_iff_ne.mpr c4;have c4b1 : (a2 != 0) = true:=bne_iff_ne.mpr c4;by_cases c5 : a2≤a0
  ·rw [if_pos c5] at H
   exact absurd H (by simp)
  ·rw [if_neg c5] at H
   have c5b0 : decide (a2≤a0) = false:=decide_eq_false c5;clear c5;by_cases c6 : a0 = 0
   ·rw [if_pos c6] at H
    have c6b0 : (a0 == 0) = true:=beq_iff_eq.mpr c6;have c6b1 : (a0 != 0) = false:=bne_eq_false_iff_eq.mpr c6;clear c6;simp only [ae,Prod.mk.injEq] at H
    obtain ⟨rfl,rfl⟩:=H;go_enter Try.func33,Try.ntmps33
    go_wp2
    repeat (go_quiet (fail);try go_wp2)
    go_ret2
    exact ⟨by first|rfl|(simp;done)|(simp [*];done),by repeat (first|exact ab _|apply ac)⟩
   ·rw [if_neg c6] at H
    have c6b0 : (a0 == 0) = false:=beq_eq_false_iff_ne.mpr c6;have c6b1 : (a0 != 0) = true:=bne_iff_ne.mpr c6;replace H:=af.mp H;obtain ⟨g,G,H⟩:=H;replace H : (if 0≤(aa.wrap (g)) then (if 0≤(aa.wrap (64 - (aa.wrap (g)))) then (if ((shl .u64 a2 (aa.wrap (g))) / 4294967296) = 0 then (none) else (bits_Div64.l0 k (shl .u64 a2 (aa.wrap (g))) (aa.wrap (g)) ((shl .u64 a2 (aa.wrap (g))) / 4294967296) (Go.bits .and .u64 (shl .u64 a2 (aa.wrap (g))) 4294967295) (Go.bits .or .u64 (shl .u64 a0 (aa.wrap (g))) (shr .u64 a1 (aa.wrap (64 - (aa.wrap (g)))))) ((shl .u64 a1 (aa.wrap (g))) / 4294967296) (Go.bits .and .u64 (shl .u64 a1 (aa.wrap (g))) 4294967295) (aa.wrap (Int.tdiv (Go.bits .or .u64 (shl .u64 a0 (aa.wrap (g))) (shr .u64 a1 (aa.wrap (64 - (aa.wrap (g)))))) ((shl .u64 a2 (aa.wrap (g))) / 4294967296))) (aa.wrap ((Go.bits .or .u64 (shl .u64 a0 (aa.wrap (g))) (shr .u64 a1 (aa.wrap (64 - (aa.wrap (g)))))) - (aa.wrap ((aa.wrap (Int.tdiv (Go.bits .or .u64 (shl .u64 a0 (aa.wrap (g))) (shr .u64 a1 (aa.wrap (64 - (aa.wrap (g)))))) ((shl .u64 a2 (aa.wrap (g))) / 4294967296))) * ((shl .u64 a2 (aa.wrap (g))) / 4294967296))))))) else (none)) else (none)) = some (r1,r2):=H;have m:=ka G;clear G;obtain ⟨ji8,hji8⟩ : ∃ j_ : Int,(aa.wrap (g)) = j_:=⟨_,rfl⟩
    replace H : (if 0≤(ji8) then (if 0≤(aa.wrap (64 - (ji8))) then (if ((shl .u64 a2 (ji8)) / 4294967296) = 0 then (none) else (bits_Div64.l0 k (shl .u64 a2 (ji8)) ji8 ((shl .u64 a2 (ji8)) / 4294967296) (Go.bits .and .u64 (shl .u64 a2 (ji8)) 4294967295) (Go.bits .or .u64 (shl .u64 a0 (ji8)) (shr .u64 a1 (aa.wrap (64 - (ji8))))) ((shl .u64 a1 (ji8)) / 4294967296) (Go.bits .and .u64 (shl .u64 a1 (ji8)) 4294967295) (aa.wrap (Int.tdiv (Go.bits .or .u64 (shl .u64 a0 (ji8)) (shr .u64 a1 (aa.wrap (64 - (ji8))))) ((shl .u64 a2 (ji8)) / 4294967296))) (aa.wrap ((Go.bits .or .u64 (shl .u64 a0 (ji8)) (shr .u64 a1 (aa.wrap (64 - (ji8))))) - (aa.wrap ((aa.wrap (Int.tdiv (Go.bits .or .u64 (shl .u64 a0 (ji8)) (shr .u64 a1 (aa.wrap (64 - (ji8))))) ((shl .u64 a2 (ji8)) / 4294967296))) * ((shl .u64 a2 (ji8)) / 4294967296))))))) else (none)) else (none)) = some (r1,r2):=by first|(rw [hji8] at H;exact H)|(simp only [hji8] at H ⊢;exact H)
    (try rw [hji8] at m);by_cases c9 : 0≤(ji8)
    ·rw [if_pos c9] at H
     have c9b0:=eq_true c9;have c9b1 : decide (0≤(ji8)) = true:=decide_eq_true c9;clear c9;obtain ⟨ji10,hji10⟩ : ∃ j_ : Int,(shl .u64 a2 (ji8)) = j_:=⟨_,rfl⟩
     replace H : (if 0≤(aa.wrap (64 - (ji8))) then (if ((ji10) / 4294967296) = 0 then (none) else (bits_Div64.l0 k ji10 ji8 ((ji10) / 4294967296) (Go.bits .and .u64 (ji10) 4294967295) (Go.bits .or .u64 (shl .u64 a0 (ji8)) (shr .u64 a1 (aa.wrap (64 - (ji8))))) ((shl .u64 a1 (ji8)) / 4294967296) (Go.bits .and .u64 (shl .u64 a1 (ji8)) 4294967295) (aa.wrap (Int.tdiv (Go.bits .or .u64 (shl .u64 a0 (ji8)) (shr .u64 a1 (aa.wrap (64 - (ji8))))) ((ji10) / 4294967296))) (aa.wrap ((Go.bits .or .u64 (shl .u64 a0 (ji8)) (shr .u64 a1 (aa.wrap (64 - (ji8))))) - (aa.wrap ((aa.wrap (Int.tdiv (Go.bits .or .u64 (shl .u64 a0 (ji8)) (shr .u64 a1 (aa.wrap (64 - (ji8))))) ((ji10) / 4294967296))) * ((ji10) / 4294967296))))))) else (none)) = some (r1,r2):=by first|(rw [hji10] at H;exact H)|(simp only [hji10] at H ⊢;exact H)
     (try rw [hji10] at m);have hji10_ : (aa.wrap (a2 * 2 ^ min (ji8).toNat 64)) = ji10:=hji10;have hji10z : (ji8)≤64→(aa.wrap (a2 * 2 ^ (ji8).toNat)) = ji10:=shl_small hji10;have c11b0:=eq_true (of_decide_eq_true (by first|(with_reducible assumption)|assumption) : 0≤(ji8));obtain ⟨ji12,hji12⟩ : ∃ j_ : Int,(shl .u64 a0 (ji8)) = j_:=⟨_,rfl⟩
     replace H : (if 0≤(aa.wrap (64 - (ji8))) then (if ((ji10) / 4294967296) = 0 then (none) else (bits_Div64.l0 k ji10 ji8 ((ji10) / 4294967296) (Go.bits .and .u64 (ji10) 4294967295) (Go.bits .or .u64 (ji12) (shr .u64 a1 (aa.wrap (64 - (ji8))))) ((shl .u64 a1 (ji8)) / 4294967296) (Go.bits .and .u64 (shl .u64 a1 (ji8)) 4294967295) (aa.wrap (Int.tdiv (Go.bits .or .u64 (ji12) (shr .u64 a1 (aa.wrap (64 - (ji8))))) ((ji10) / 4294967296))) (aa.wrap ((Go.bits .or .u64 (ji12) (shr .u64 a1 (aa.wrap (64 - (ji8))))) - (aa.wrap ((aa.wrap (Int.tdiv (Go.bits .or .u64 (ji12) (shr .u64 a1 (aa.wrap (64 - (ji8))))) ((ji10) / 4294967296))) * ((ji10) / 4294967296))))))) else (none)) = some (r1,r2):=by first|(rw [hji12] at H;exact H)|(simp only [hji12] at H ⊢;exact H)
     (try rw [hji12] at m);have hji12_ : (aa.wrap (a0 * 2 ^ min (ji8).toNat 64)) = ji12:=hji12;have hji12z : (ji8)≤64→(aa.wrap (a0 * 2 ^ (ji8).toNat)) = ji12:=shl_small hji12;obtain ⟨ji13,hji13⟩ : ∃ j_ : Int,(aa.wrap (64 - (ji8))) = j_:=⟨_,rfl⟩
     replace H : (if 0≤(ji13) then (if ((ji10) / 4294967296) = 0 then (none) else (bits_Div64.l0 k ji10 ji8 ((ji10) / 4294967296) (Go.bits .and .u64 (ji10) 4294967295) (Go.bits .or .u64 (ji12) (shr .u64 a1 (ji13))) ((shl .u64 a1 (ji8)) / 4294967296) (Go.bits .and .u64 (shl .u64 a1 (ji8)) 4294967295) (aa.wrap (Int.tdiv (Go.bits .or .u64 (ji12) (shr .u64 a1 (ji13))) ((ji10) / 4294967296))) (aa.wrap ((Go.bits .or .u64 (ji12) (shr .u64 a1 (ji13))) - (aa.wrap ((aa.wrap (Int.tdiv (Go.bits .or .u64 (ji12) (shr .u64 a1 (ji13))) ((ji10) / 4294967296))) * ((ji10) / 4294967296))))))) else (none)) = some (r1,r2):=by first|(rw [hji13] at H;exact H)|(simp only [hji13] at H ⊢;exact H)
     (try rw [hji13] at m);by_cases c14 : 0≤(ji13)
     ·rw [if_pos c14] at H
      have c14b0:=eq_true c14;have c14b1 : decide (0≤(ji13)) = true:=decide_eq_true c14;clear c14;obtain ⟨ji15,hji15⟩ : ∃ j_ : Int,(shr .u64 a1 (ji13)) = j_:=⟨_,rfl⟩
      replace H : (if ((ji10) / 4294967296) = 0 then (none) else (bits_Div64.l0 k ji10 ji8 ((ji10) / 4294967296) (Go.bits .and .u64 (ji10) 4294967295) (Go.bits .or .u64 (ji12) (ji15)) ((shl .u64 a1 (ji8)) / 4294967296) (Go.bits .and .u64 (shl .u64 a1 (ji8)) 4294967295) (aa.wrap (Int.tdiv (Go.bits .or .u64 (ji12) (ji15)) ((ji10) / 4294967296))) (aa.wrap ((Go.bits .or .u64 (ji12) (ji15)) - (aa.wrap ((aa.wrap (Int.tdiv (Go.bits .or .u64 (ji12) (ji15)) ((ji10) / 4294967296))) * ((ji10) / 4294967296))))))) = some (r1,r2):=by first|(rw [hji15] at H;exact H)|(simp only [hji15] at H ⊢;exact H)
      (try rw [hji15] at m);have hji15_ : (a1 / 2 ^ min (ji13).toNat 64) = ji15:=hji15;have hji15z : (ji13)≤64→(a1 / 2 ^ (ji13).toNat) = ji15:=shr_small hji15;have c16b0:=eq_true (of_decide_eq_true (by first|(with_reducible assumption)|assumption) : 0≤(ji8));obtain ⟨ji17,hji17⟩ : ∃ j_ : Int,(shl .u64 a1 (ji8)) = j_:=⟨_,rfl⟩
      replace H : (if ((ji10) / 4294967296) = 0 then (none) else (bits_Div64.l0 k ji10 ji8 ((ji10) / 4294967296) (Go.bits .and .u64 (ji10) 4294967295) (Go.bits .or .u64 (ji12) (ji15)) ((ji17) / 4294967296) (Go.bits .and .u64 (ji17) 4294967295) (aa.wrap (Int.tdiv (Go.bits .or .u64 (ji12) (ji15)) ((ji10) / 4294967296))) (aa.wrap ((Go.bits .or .u64 (ji12) (ji15)) - (aa.wrap ((aa.wrap (Int.tdiv (Go.bits .or .u64 (ji12) (ji15)) ((ji10) / 4294967296))) * ((ji10) / 4294967296))))))) = some (r1,r2):=by first|(rw [hji17] at H;exact H)|(simp only [hji17] at H ⊢;exact H)
      (try rw [hji17] at m);have hji17_ : (aa.wrap (a1 * 2 ^ min (ji8).toNat 64)) = ji17:=hji17;have hji17z : (ji8)≤64→(aa.wrap (a1 * 2 ^ (ji8).toNat)) = ji17:=shl_small hji17;by_cases c18 : ((ji10) / 4294967296) = 0
      ·rw [if_pos c18] at H
       exact absurd H (by simp)
      ·rw [if_neg c18] at H
       have c18b0 : (((ji10) / 4294967296) == 0) = false:=beq_eq_false_iff_ne.mpr c18;have c18b1 : (((ji10) / 4294967296) != 0) = true:=bne_iff_ne.mpr c18;have q:=ka H;clear H;go_enter Try.func33,Try.ntmps33
       go_upto_block 0 with (first|(go_at_call 44;(with_reducible refine (bits_LeadingZeros64.calls a2 g _ m.out).mono ?_);rintro e w' ⟨rfl,⟨nd,rfl⟩⟩;(try first|exact ⟨rfl,_,World.drewN_drewN _ _ _⟩|exact ⟨rfl,_,Eq.trans (World.drewN_drewN _ _ _) (congrArg (World.drewN _) (Nat.add_assoc _ _ _))⟩)))
       repeat (go_quiet (first|(go_at_call 44;(with_reducible refine (bits_LeadingZeros64.calls a2 g _ m.out).mono ?_);rintro e w' ⟨rfl,⟨nd,rfl⟩⟩;(try first|exact ⟨rfl,_,World.drewN_drewN _ _ _⟩|exact ⟨rfl,_,Eq.trans (World.drewN_drewN _ _ _) (congrArg (World.drewN _) (Nat.add_assoc _ _ _))⟩)));go_upto_block 0 with (first|(go_at_call 44;(with_reducible refine (bits_LeadingZeros64.calls a2 g _ m.out).mono ?_);rintro e w' ⟨rfl,⟨nd,rfl⟩⟩;(try first|exact ⟨rfl,_,World.drewN_drewN _ _ _⟩|exact ⟨rfl,_,Eq.trans (World.drewN_drewN _ _ _) (congrArg (World.drewN _) (Nat.add_assoc _ _ _))⟩))))
       (try simp only [Act.put,ah,aj,ak]);go_cut [15] (fun z wc=>∃ (kq : Nat) (x15_18 : Int),z = .int .u64 x15_18∧al (bits_Div64.j2 kq ji10 ji8 ((ji10) / 4294967296) (Go.bits .and .u64 (ji10) 4294967295) (Go.bits .or .u64 (ji12) (ji15)) ((ji17) / 4294967296) (Go.bits .and .u64 (ji17) 4294967295) x15_18 = some (r1,r2))∧al (kq≤k)∧Drawn0 w wc)
       case first=>
        have H:=q.out;clear q;have H':=ka H;clear H;go_wp2
        repeat (go_quiet (fail);try go_wp2)
        (try simp only [Act.put,ah,aj,ak]);go_loopg [15,16] k (fun kq z A w'=>∃ (x15_1 : Int) (x16_1 : Int),z = .int .u64 x15_1∧A = .int .u64 x16_1∧al (bits_Div64.l0 kq ji10 ji8 ((ji10) / 4294967296) (Go.bits .and .u64 (ji10) 4294967295) (Go.bits .or .u64 (ji12) (ji15)) ((ji17) / 4294967296) (Go.bits .and .u64 (ji17) 4294967295) x15_1 x16_1 = some (r1,r2))∧al (kq≤k)∧Drawn0 w w')
        case atStart=>exact ⟨(aa.wrap (Int.tdiv (Go.bits .or .u64 (ji12) (ji15)) ((ji10) / 4294967296))),(aa.wrap ((Go.bits .or .u64 (ji12) (ji15)) - (aa.wrap ((aa.wrap (Int.tdiv (Go.bits .or .u64 (ji12) (ji15)) ((ji10) / 4294967296))) * ((ji10) / 4294967296))))),(by first|rfl|(simp;done)|(simp only [← hji10,← hji12,← hji15] <;> (first|rfl|simp))|(simp [*];done)),(by first|rfl|(simp;done)|(simp only [← hji10,← hji12,← hji15] <;> (first|rfl|simp))|(simp [*];done)),H',⟨ai _⟩,by repeat (first|exact ab _|apply ac)⟩
        case round=>
         clear H';try clear c1
         try clear c4
         try clear c4b0
         try clear c4b1
         try clear c5
         try clear c5b0
         try clear c6
         try clear c6b0
         try clear c6b1
         try clear c9
         try clear c9b0
         try clear c9b1
         try clear c11b0
         try clear c14
         try clear c14b0
         try clear c14b1
         try clear c16b0
         try clear c18
         try clear c18b0
         try clear c18b1
         obtain ⟨x15_1,x16_1,rfl,rfl,HA,HK1,⟨m1,rfl⟩⟩:=hrel;cases gk with
         | zero=>exact absurd HA.out (by simp [bits_Div64.l0])
         | succ k1=>
          have H:=HA.out;clear HA;simp only [bits_Div64.l0] at H
          have s:=ka H;clear H;go_upto_region 17 with (fail)
          repeat (go_quiet (fail);go_upto_region 17 with (fail))
          go_cut [78] (fun J wc=>∃ (kq : Nat) (x78_19 : Bool),J = .bool x78_19∧al (bits_Div64.j1 kq ji10 ji8 ((ji10) / 4294967296) (Go.bits .and .u64 (ji10) 4294967295) (Go.bits .or .u64 (ji12) (ji15)) ((ji17) / 4294967296) (Go.bits .and .u64 (ji17) 4294967295) x15_1 x16_1 x78_19 = some (r1,r2))∧al (kq≤k1)∧Drawn0 w wc)
          case first=>
           have H:=s.out;clear s;by_cases c21 : x15_1 ≥ 4294967296
           ·rw [if_pos c21] at H
            have c21b0 : decide (4294967296≤x15_1) = true:=decide_eq_true c21;clear c21;(first|rw [c21b0]|(simp only [i64_w,i32_w];rw [c21b0])|skip);have H':=ka H;clear H;go_wp2
            repeat (go_quiet (fail);try go_wp2)
            go_meet
            case rel=>exact ⟨_,(true),(by first|rfl|(simp;done)|(simp [*];done)),H',⟨by have:=HK1.out;first|omega|exact ai _⟩,by repeat (first|exact ab _|apply ac)⟩
           ·rw [if_neg c21] at H
            have c21b0 : decide (4294967296≤x15_1) = false:=decide_eq_false c21;clear c21;(first|rw [c21b0]|(simp only [i64_w,i32_w];rw [c21b0])|skip);have H':=ka H;clear H;go_wp2
            repeat (go_quiet (fail);try go_wp2)
            go_meet
            case rel=>exact ⟨_,(decide ((aa.wrap (x15_1 * (Go.bits .and .u64 (ji10) 4294967295))) > (aa.wrap ((aa.wrap (4294967296 * x16_1)) + ((ji17) / 4294967296))))),(by first|rfl|(simp;done)|(simp only [← hji10,← hji17] <;> (first|rfl|simp))|(simp [*];done)),H',⟨by have:=HK1.out;first|omega|exact ai _⟩,by repeat (first|exact ab _|apply ac)⟩
          case rest=>
           clear s;try clear c1
           try clear c4
           try clear c4b0
           try clear c4b1
           try clear c5
           try clear c5b0
           try clear c6
           try clear c6b0
           try clear c6b1
           try clear c9
           try clear c9b0
           try clear c9b1
           try clear c11b0
           try clear c14
           try clear c14b0
           try clear c14b1
           try clear c16b0
           try clear c18
           try clear c18b0
           try clear c18b1
           obtain ⟨kq,x78_19,rfl,HA,o,⟨mc19,rfl⟩⟩:=hcut;cases kq with
           | zero=>exact absurd HA.out (by simp [bits_Div64.j1])
           | succ kj19=>
            have H:=HA.out;clear HA;simp only [bits_Div64.j1] at H
            by_cases c22 : x78_19 = true
            ·subst c22;have H1 : (if (aa.wrap (x16_1 + ((ji10) / 4294967296))) ≥ 4294967296 then (bits_Div64.j2 kj19 ji10 ji8 ((ji10) / 4294967296) (Go.bits .and .u64 (ji10) 4294967295) (Go.bits .or .u64 (ji12) (ji15)) ((ji17) / 4294967296) (Go.bits .and .u64 (ji17) 4294967295) (aa.wrap (x15_1 - 1))) else (bits_Div64.l0 kj19 ji10 ji8 ((ji10) / 4294967296) (Go.bits .and .u64 (ji10) 4294967295) (Go.bits .or .u64 (ji12) (ji15)) ((ji17) / 4294967296) (Go.bits .and .u64 (ji17) 4294967295) (aa.wrap (x15_1 - 1)) (aa.wrap (x16_1 + ((ji10) / 4294967296))))) = some (r1,r2):=by rw [if_pos rfl] at H;exact H
             clear H;have H:=H1;clear H1;by_cases c23 : (aa.wrap (x16_1 + ((ji10) / 4294967296))) ≥ 4294967296
             ·rw [if_pos c23] at H
              have c23b0 : decide (4294967296≤(aa.wrap (x16_1 + ((ji10) / 4294967296)))) = true:=decide_eq_true c23;clear c23;have H':=ka H;clear H;go_wp2
              repeat (go_quiet (fail);try go_wp2)
              go_meet
              case rel=>exact ⟨_,(aa.wrap (x15_1 - 1)),(by first|rfl|(simp;done)|(simp [*];done)),H',⟨by have:=HK1.out;have:=o.out;first|omega|exact ai _⟩,by repeat (first|exact ab _|apply ac)⟩
             ·rw [if_neg c23] at H
              have c23b0 : decide (4294967296≤(aa.wrap (x16_1 + ((ji10) / 4294967296)))) = false:=decide_eq_false c23;clear c23;have H':=ka H;clear H;go_wp2
              repeat (go_quiet (fail);try go_wp2)
              go_roundg kj19
              case measure=>have:=HK1.out;have:=o.out;omega
              case rel=>exact ⟨(aa.wrap (x15_1 - 1)),(aa.wrap (x16_1 + ((ji10) / 4294967296))),(by first|rfl|(simp;done)|(simp [*];done)),(by first|rfl|(simp;done)|(simp only [← hji10] <;> (first|rfl|simp))|(simp [*];done)),H',⟨by have:=HK1.out;have:=o.out;omega⟩,by repeat (first|exact ab _|apply ac)⟩
            ·replace c22:=ag.mpr c22;subst c22;have H1 : (bits_Div64.j2 kj19 ji10 ji8 ((ji10) / 4294967296) (Go.bits .and .u64 (ji10) 4294967295) (Go.bits .or .u64 (ji12) (ji15)) ((ji17) / 4294967296) (Go.bits .and .u64 (ji17) 4294967295) x15_1) = some (r1,r2):=by rw [if_neg (show ¬ (false = true) by decide)] at H;exact H
             clear H;have H:=H1;clear H1;have H':=ka H;clear H;go_wp2
             repeat (go_quiet (fail);try go_wp2)
             go_meet
             case rel=>exact ⟨_,(x15_1),(by first|rfl|(simp;done)|(simp [*];done)),H',⟨by have:=HK1.out;have:=o.out;first|omega|exact ai _⟩,by repeat (first|exact ab _|apply ac)⟩
       case rest=>
        clear q;try clear c1
        try clear c4
        try clear c4b0
        try clear c4b1
        try clear c5
        try clear c5b0
        try clear c6
        try clear c6b0
        try clear c6b1
        try clear c9
        try clear c9b0
        try clear c9b1
        try clear c11b0
        try clear c14
        try clear c14b0
        try clear c14b1
        try clear c16b0
        try clear c18
        try clear c18b0
        try clear c18b1
        obtain ⟨kq,x15_18,rfl,HA,p,⟨mc18,rfl⟩⟩:=hcut;cases kq with
        | zero=>exact absurd HA.out (by simp [bits_Div64.j2])
        | succ kj18=>
         have H:=HA.out;clear HA;simp only [bits_Div64.j2] at H
         by_cases c24 : ((ji10) / 4294967296) = 0
         ·rw [if_pos c24] at H
          exact absurd H (by simp)
         ·rw [if_neg c24] at H
          have c24b0 : (((ji10) / 4294967296) == 0) = false:=beq_eq_false_iff_ne.mpr c24;have c24b1 : (((ji10) / 4294967296) != 0) = true:=bne_iff_ne.mpr c24;have H':=ka H;clear H;go_wp2
          repeat (go_quiet (fail);try go_wp2)
          (try simp only [Act.put,ah,aj,ak]);go_loopg [16,18] kj18 (fun kq A K w'=>∃ (x16_2 : Int) (x18_2 : Int),A = .int .u64 x16_2∧K = .int .u64 x18_2∧al (bits_Div64.l1 kq ji10 ji8 ((ji10) / 4294967296) (Go.bits .and .u64 (ji10) 4294967295) (Go.bits .and .u64 (ji17) 4294967295) x15_18 x16_2 (aa.wrap ((aa.wrap ((aa.wrap ((Go.bits .or .u64 (ji12) (ji15)) * 4294967296)) + ((ji17) / 4294967296))) - (aa.wrap (x15_18 * ji10)))) x18_2 = some (r1,r2))∧al (kq≤kj18)∧Drawn0 w w')
          case atStart=>exact ⟨(aa.wrap ((aa.wrap ((aa.wrap ((aa.wrap ((Go.bits .or .u64 (ji12) (ji15)) * 4294967296)) + ((ji17) / 4294967296))) - (aa.wrap (x15_18 * ji10)))) - (aa.wrap ((aa.wrap (Int.tdiv (aa.wrap ((aa.wrap ((aa.wrap ((Go.bits .or .u64 (ji12) (ji15)) * 4294967296)) + ((ji17) / 4294967296))) - (aa.wrap (x15_18 * ji10)))) ((ji10) / 4294967296))) * ((ji10) / 4294967296))))),(aa.wrap (Int.tdiv (aa.wrap ((aa.wrap ((aa.wrap ((Go.bits .or .u64 (ji12) (ji15)) * 4294967296)) + ((ji17) / 4294967296))) - (aa.wrap (x15_18 * ji10)))) ((ji10) / 4294967296))),(by first|rfl|(simp;done)|(simp only [← hji10,← hji12,← hji15,← hji17] <;> (first|rfl|simp))|(simp [*];done)),(by first|rfl|(simp;done)|(simp only [← hji10,← hji12,← hji15,← hji17] <;> (first|rfl|simp))|(simp [*];done)),H',⟨ai _⟩,by repeat (first|exact ab _|apply ac)⟩
          case round=>
           clear H';try clear c1
           try clear c4
           try clear c4b0
           try clear c4b1
           try clear c5
           try clear c5b0
           try clear c6
           try clear c6b0
           try clear c6b1
           try clear c9
           try clear c9b0
           try clear c9b1
           try clear c11b0
           try clear c14
           try clear c14b0
           try clear c14b1
           try clear c16b0
           try clear c18
           try clear c18b0
           try clear c18b1
           try clear c24
           try clear c24b0
           try clear c24b1
           obtain ⟨x16_2,x18_2,rfl,rfl,HA,HK2,⟨m2,rfl⟩⟩:=hrel;cases gk with
           | zero=>exact absurd HA.out (by simp [bits_Div64.l1])
           | succ k2=>
            have H:=HA.out;clear HA;simp only [bits_Div64.l1] at H
            have t:=ka H;clear H;go_upto_region 24 with (fail)
            repeat (go_quiet (fail);go_upto_region 24 with (fail))
            go_cut [113] (fun I wc=>∃ (kq : Nat) (x113_24 : Bool),I = .bool x113_24∧al (bits_Div64.j4 kq ji10 ji8 ((ji10) / 4294967296) (Go.bits .and .u64 (ji10) 4294967295) (Go.bits .and .u64 (ji17) 4294967295) x15_18 x16_2 (aa.wrap ((aa.wrap ((aa.wrap ((Go.bits .or .u64 (ji12) (ji15)) * 4294967296)) + ((ji17) / 4294967296))) - (aa.wrap (x15_18 * ji10)))) x18_2 x113_24 = some (r1,r2))∧al (kq≤k2)∧Drawn0 w wc)
            case first=>
             have H:=t.out;clear t;by_cases c26 : x18_2 ≥ 4294967296
             ·rw [if_pos c26] at H
              have c26b0 : decide (4294967296≤x18_2) = true:=decide_eq_true c26;clear c26;(first|rw [c26b0]|(simp only [i64_w,i32_w];rw [c26b0])|skip);have H':=ka H;clear H;go_wp2
              repeat (go_quiet (fail);try go_wp2)
              go_meet
              case rel=>exact ⟨_,(true),(by first|rfl|(simp;done)|(simp [*];done)),H',⟨by have:=p.out;have:=HK2.out;first|omega|exact ai _⟩,by repeat (first|exact ab _|apply ac)⟩
             ·rw [if_neg c26] at H
              have c26b0 : decide (4294967296≤x18_2) = false:=decide_eq_false c26;clear c26;(first|rw [c26b0]|(simp only [i64_w,i32_w];rw [c26b0])|skip);have H':=ka H;clear H;go_wp2
              repeat (go_quiet (fail);try go_wp2)
              go_meet
              case rel=>exact ⟨_,(decide ((aa.wrap (x18_2 * (Go.bits .and .u64 (ji10) 4294967295))) > (aa.wrap ((aa.wrap (4294967296 * x16_2)) + (Go.bits .and .u64 (ji17) 4294967295))))),(by first|rfl|(simp;done)|(simp only [← hji10,← hji17] <;> (first|rfl|simp))|(simp [*];done)),H',⟨by have:=p.out;have:=HK2.out;first|omega|exact ai _⟩,by repeat (first|exact ab _|apply ac)⟩
            case rest=>
             clear t;try clear c1
             try clear c4
             try clear c4b0
             try clear c4b1
             try clear c5
             try clear c5b0
             try clear c6
             try clear c6b0
             try clear c6b1
             try clear c9
             try clear c9b0
             try clear c9b1
             try clear c11b0
             try clear c14
             try clear c14b0
             try clear c14b1
             try clear c16b0
             try clear c18
             try clear c18b0
             try clear c18b1
             try clear c24
             try clear c24b0
             try clear c24b1
             obtain ⟨kq,x113_24,rfl,HA,C,⟨mc24,rfl⟩⟩:=hcut;cases kq with
             | zero=>exact absurd HA.out (by simp [bits_Div64.j4])
             | succ kj24=>
              have H:=HA.out;clear HA;simp only [bits_Div64.j4] at H
              by_cases c27 : x113_24 = true
              ·subst c27;have H1 : (if (aa.wrap (x16_2 + ((ji10) / 4294967296))) ≥ 4294967296 then (if 0≤ji8 then (some (aa.wrap ((aa.wrap (x15_18 * 4294967296)) + (aa.wrap (x18_2 - 1))),shr .u64 (aa.wrap ((aa.wrap ((aa.wrap ((aa.wrap ((aa.wrap ((aa.wrap ((Go.bits .or .u64 (ji12) (ji15)) * 4294967296)) + ((ji17) / 4294967296))) - (aa.wrap (x15_18 * ji10)))) * 4294967296)) + (Go.bits .and .u64 (ji17) 4294967295))) - (aa.wrap ((aa.wrap (x18_2 - 1)) * ji10)))) ji8)) else (none)) else (bits_Div64.l1 kj24 ji10 ji8 ((ji10) / 4294967296) (Go.bits .and .u64 (ji10) 4294967295) (Go.bits .and .u64 (ji17) 4294967295) x15_18 (aa.wrap (x16_2 + ((ji10) / 4294967296))) (aa.wrap ((aa.wrap ((aa.wrap ((Go.bits .or .u64 (ji12) (ji15)) * 4294967296)) + ((ji17) / 4294967296))) - (aa.wrap (x15_18 * ji10)))) (aa.wrap (x18_2 - 1)))) = some (r1,r2):=by rw [if_pos rfl] at H;exact H
               clear H;have H:=H1;clear H1;by_cases c28 : (aa.wrap (x16_2 + ((ji10) / 4294967296))) ≥ 4294967296
               ·rw [if_pos c28] at H
                have c28b0 : decide (4294967296≤(aa.wrap (x16_2 + ((ji10) / 4294967296)))) = true:=decide_eq_true c28;clear c28;by_cases c29 : 0≤ji8
                ·rw [if_pos c29] at H
                 have c29b0:=eq_true c29;have c29b1 : decide (0≤ji8) = true:=decide_eq_true c29;clear c29;obtain ⟨ji30,hji30⟩ : ∃ j_ : Int,(shr .u64 (aa.wrap ((aa.wrap ((aa.wrap ((aa.wrap ((aa.wrap ((aa.wrap ((Go.bits .or .u64 (ji12) (ji15)) * 4294967296)) + ((ji17) / 4294967296))) - (aa.wrap (x15_18 * ji10)))) * 4294967296)) + (Go.bits .and .u64 (ji17) 4294967295))) - (aa.wrap ((aa.wrap (x18_2 - 1)) * ji10)))) ji8) = j_:=⟨_,rfl⟩
                 replace H : (some (aa.wrap ((aa.wrap (x15_18 * 4294967296)) + (aa.wrap (x18_2 - 1))),ji30)) = some (r1,r2):=by first|(rw [hji30] at H;exact H)|(simp only [hji30] at H ⊢;exact H)
                 have hji30_ : ((aa.wrap ((aa.wrap ((aa.wrap ((aa.wrap ((aa.wrap ((aa.wrap ((Go.bits .or .u64 (ji12) (ji15)) * 4294967296)) + ((ji17) / 4294967296))) - (aa.wrap (x15_18 * ji10)))) * 4294967296)) + (Go.bits .and .u64 (ji17) 4294967295))) - (aa.wrap ((aa.wrap (x18_2 - 1)) * ji10)))) / 2 ^ min ji8.toNat 64) = ji30:=hji30;have hji30z : ji8≤64→((aa.wrap ((aa.wrap ((aa.wrap ((aa.wrap ((aa.wrap ((aa.wrap ((Go.bits .or .u64 (ji12) (ji15)) * 4294967296)) + ((ji17) / 4294967296))) - (aa.wrap (x15_18 * ji10)))) * 4294967296)) + (Go.bits .and .u64 (ji17) 4294967295))) - (aa.wrap ((aa.wrap (x18_2 - 1)) * ji10)))) / 2 ^ ji8.toNat) = ji30:=shr_small hji30;simp only [ae,Prod.mk.injEq] at H
                 obtain ⟨rfl,rfl⟩:=H;go_wp2
                 repeat (go_quiet (fail);try go_wp2)
                 go_ret2
                 exact ⟨by first|rfl|(simp;done)|(simp only [← hji8,← hji10,← hji12,← hji13,← hji15,← hji17,← hji30] <;> (first|rfl|simp))|(simp [*];done),by repeat (first|exact ab _|apply ac)⟩
                ·rw [if_neg c29] at H
                 exact absurd H (by simp)
               ·rw [if_neg c28] at H
                have c28b0 : decide (4294967296≤(aa.wrap (x16_2 + ((ji10) / 4294967296)))) = false:=decide_eq_false c28;clear c28;have H':=ka H;clear H;go_wp2
                repeat (go_quiet (fail);try go_wp2)
                go_roundg kj24
                case measure=>have:=p.out;have:=HK2.out;have:=C.out;omega
                case rel=>exact ⟨(aa.wrap (x16_2 + ((ji10) / 4294967296))),(aa.wrap (x18_2 - 1)),(by first|rfl|(simp;done)|(simp only [← hji10] <;> (first|rfl|simp))|(simp [*];done)),(by first|rfl|(simp;done)|(simp [*];done)),H',⟨by have:=p.out;have:=HK2.out;have:=C.out;omega⟩,by repeat (first|exact ab _|apply ac)⟩
              ·replace c27:=ag.mpr c27;subst c27;have H1 : (if 0≤ji8 then (some (aa.wrap ((aa.wrap (x15_18 * 4294967296)) + x18_2),shr .u64 (aa.wrap ((aa.wrap ((aa.wrap ((aa.wrap ((aa.wrap ((aa.wrap ((Go.bits .or .u64 (ji12) (ji15)) * 4294967296)) + ((ji17) / 4294967296))) - (aa.wrap (x15_18 * ji10)))) * 4294967296)) + (Go.bits .and .u64 (ji17) 4294967295))) - (aa.wrap (x18_2 * ji10)))) ji8)) else (none)) = some (r1,r2):=by rw [if_neg (show ¬ (false = true) by decide)] at H;exact H
               clear H;have H:=H1;clear H1;by_cases c31 : 0≤ji8
               ·rw [if_pos c31] at H
                have c31b0:=eq_true c31;have c31b1 : decide (0≤ji8) = true:=decide_eq_true c31;clear c31;obtain ⟨ji32,hji32⟩ : ∃ j_ : Int,(shr .u64 (aa.wrap ((aa.wrap ((aa.wrap ((aa.wrap ((aa.wrap ((aa.wrap ((Go.bits .or .u64 (ji12) (ji15)) * 4294967296)) + ((ji17) / 4294967296))) - (aa.wrap (x15_18 * ji10)))) * 4294967296)) + (Go.bits .and .u64 (ji17) 4294967295))) - (aa.wrap (x18_2 * ji10)))) ji8) = j_:=⟨_,rfl⟩
                replace H : (some (aa.wrap ((aa.wrap (x15_18 * 4294967296)) + x18_2),ji32)) = some (r1,r2):=by first|(rw [hji32] at H;exact H)|(simp only [hji32] at H ⊢;exact H)
                have hji32_ : ((aa.wrap ((aa.wrap ((aa.wrap ((aa.wrap ((aa.wrap ((aa.wrap ((Go.bits .or .u64 (ji12) (ji15)) * 4294967296)) + ((ji17) / 4294967296))) - (aa.wrap (x15_18 * ji10)))) * 4294967296)) + (Go.bits .and .u64 (ji17) 4294967295))) - (aa.wrap (x18_2 * ji10)))) / 2 ^ min ji8.toNat 64) = ji32:=hji32;have hji32z : ji8≤64→((aa.wrap ((aa.wrap ((aa.wrap ((aa.wrap ((aa.wrap ((aa.wrap ((Go.bits .or .u64 (ji12) (ji15)) * 4294967296)) + ((ji17) / 4294967296))) - (aa.wrap (x15_18 * ji10)))) * 4294967296)) + (Go.bits .and .u64 (ji17) 4294967295))) - (aa.wrap (x18_2 * ji10)))) / 2 ^ ji8.toNat) = ji32:=shr_small hji32;simp only [ae,Prod.mk.injEq] at H
                obtain ⟨rfl,rfl⟩:=H;go_wp2
                repeat (go_quiet (fail);try go_wp2)
                go_ret2
                exact ⟨by first|rfl|(simp;done)|(simp only [← hji8,← hji10,← hji12,← hji13,← hji15,← hji17,← hji32] <;> (first|rfl|simp))|(simp [*];done),by repeat (first|exact ab _|apply ac)⟩
               ·rw [if_neg c31] at H
                exact absurd H (by simp)
     ·rw [if_neg c14] at H
      exact absurd H (by simp)
    ·rw [if_neg c9] at H
     exact absurd H (by simp)
end Go.Proofs.Ytghimjkoaldafaa.P
