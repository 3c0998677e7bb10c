-- Written by a program of this session out of the translation of the seat: Lean functions and the proofs that the Go functions come to them.
import Derived.Test.YtghimjkoaldafaaPx0
import Derived.Test.YtghimjkoaldafaaPx1
namespace Go.Proofs.Ytghimjkoaldafaa.P
open Go.RowKit Go.Proofs.YtghimjkoaldafaaW.PrintWords Go.Proofs.YtghimjkoaldafaaW.PrintLast Go.Proofs.YtghimjkoaldafaaW.PrintMore
open Go.IntKind renaming u64 → aa
open Go.Proofs.YtghimjkoaldafaaW.PrintWords.Drawn0 renaming refl → ab, step → ac
open Go.Proofs.Ytghimjkoaldafaa.P.M renaming wrapu_id → ad
open Option renaming bind_eq_some_iff → ae
open Option.some renaming injEq → af
open Go.Proofs.YtghimjkoaldafaaW.PrintWords renaming gate_callee → ag
open Bool renaming eq_false_iff → ah
open Go.Proofs.Ytghimjkoaldafaa.P.cents_size renaming f → ai, calls → aj
open Nat renaming le_refl → ak
set_option maxHeartbeats 8000000
set_option maxRecDepth 100000
attribute [local go_sem] max2_int min2_int max_two min_two max_three min_three max_four min_four   -- for this text's walks alone
set_option linter.unusedVariables false
set_option linter.unusedSimpArgs false
theorem bits_Div64.step0 {x2 x8 x9 x10 x11 x13 x14 Q : Int} {res : Int × Int} (hd : M.Dig x11 x9 x10 x13 Q) {K : Nat}
  (hk : ∀ k,K≤k→bits_Div64.j2 k x2 x8 x9 x10 x11 x13 x14 Q = some res) :
  ∀ (n : Nat) (q r : Int),q * x9 + r = x11→Q≤q→q≤4294967297→0≤r→r < 4294967296→4294967296≤r + n * 2147483648→
   ∀ k,K + 2 * n + 4≤k→bits_Div64.l0 k x2 x8 x9 x10 x11 x13 x14 q r = some res:=by
 intro n;induction n with
 | zero=>intro q r _ _ _ _ h1 h2;omega
 | succ n ih=>
  intro q r e hQ hq h0 h1 h2 k hkk;obtain ⟨k,rfl⟩ : ∃ m,k = m + 2:=⟨k - 2,by omega⟩
  have ht:=hd.test e hQ;have hb:=hd.q_lt;have y1l:=hd.y1l;have y1u:=hd.y1u;have y0l:=hd.y0l;have y0u:=hd.y0u;have dl:=hd.dl;have du:=hd.du;simp only [bits_Div64.l0]
  by_cases hlt : Q < q
  ·have ht1:=ht.mpr hlt
   have go : bits_Div64.j1 (k + 1) x2 x8 x9 x10 x11 x13 x14 q r true = some res:=by
    simp only [bits_Div64.j1]
    rw [if_pos trivial,ad (n:=r + x9) (by omega) (by omega),ad (n:=q - 1) (by omega) (by omega)]
    by_cases hr : r + x9 ≥ 4294967296
    ·rw [if_pos hr,hd.done (hd.down e hlt) (by omega) hr (by omega)]
     exact hk _ (by omega)
    ·rw [if_neg hr]
     exact ih (q - 1) (r + x9) (hd.down e hlt) (by omega) (by omega) (by omega) (by omega) (by omega) k (by omega)
   by_cases hB : q ≥ 4294967296
   ·rw [if_pos hB];exact go
   ·rw [if_neg hB]
    have hp : q * x10≤4294967295 * 4294967295:=Int.mul_le_mul (by omega) (by omega) y0l (by decide);have hp0 : 0≤q * x10:=Int.mul_nonneg (by omega) y0l;have hm : (4294967296 : Int) * r = r * 4294967296:=Int.mul_comm _ _;rw [ad hp0 (by omega),ad (n:=4294967296 * r) (by omega) (by omega),ad (n:=4294967296 * r + x13) (by omega) (by omega),decide_eq_true ht1]
    exact go
  ·obtain rfl : q = Q:=by omega
   have ht1 : ¬ (q * x10 > 4294967296 * r + x13):=fun h=>hlt (ht.mp h)
   rw [if_neg (by omega)]
   have hp : q * x10≤4294967295 * 4294967295:=Int.mul_le_mul (by omega) (by omega) y0l (by decide);have hp0 : 0≤q * x10:=Int.mul_nonneg (by omega) y0l;have hm : (4294967296 : Int) * r = r * 4294967296:=Int.mul_comm _ _;rw [ad hp0 (by omega),ad (n:=4294967296 * r) (by omega) (by omega),ad (n:=4294967296 * r + x13) (by omega) (by omega),decide_eq_false ht1]
   simp only [bits_Div64.j1]
   rw [if_neg (by decide)]
   exact hk _ (by omega)
theorem bits_Div64.step1 {x2 x8 x9 x10 x14 x15 x17 Q : Int} {res : Int × Int} (hd : M.Dig x17 x9 x10 x14 Q)
  (hres : (if 0≤x8 then some (aa.wrap ((aa.wrap (x15 * 4294967296)) + Q),shr .u64 (aa.wrap ((aa.wrap ((aa.wrap (x17 * 4294967296)) + x14)) - (aa.wrap (Q * x2)))) x8) else none) = some res) :
  ∀ (n : Nat) (q r : Int),q * x9 + r = x17→Q≤q→q≤4294967297→0≤r→r < 4294967296→4294967296≤r + n * 2147483648→
   ∀ k,2 * n + 4≤k→bits_Div64.l1 k x2 x8 x9 x10 x14 x15 r x17 q = some res:=by
 intro n;induction n with
 | zero=>intro q r _ _ _ _ h1 h2;omega
 | succ n ih=>
  intro q r e hQ hq h0 h1 h2 k hkk;obtain ⟨k,rfl⟩ : ∃ m,k = m + 2:=⟨k - 2,by omega⟩
  have ht:=hd.test e hQ;have hb:=hd.q_lt;have y1l:=hd.y1l;have y1u:=hd.y1u;have y0l:=hd.y0l;have y0u:=hd.y0u;have dl:=hd.dl;have du:=hd.du;simp only [bits_Div64.l1]
  by_cases hlt : Q < q
  ·have ht1:=ht.mpr hlt
   have go : bits_Div64.j4 (k + 1) x2 x8 x9 x10 x14 x15 r x17 q true = some res:=by
    simp only [bits_Div64.j4]
    rw [if_pos trivial,ad (n:=r + x9) (by omega) (by omega),ad (n:=q - 1) (by omega) (by omega)]
    by_cases hr : r + x9 ≥ 4294967296
    ·rw [if_pos hr,hd.done (hd.down e hlt) (by omega) hr (by omega)]
     exact hres
    ·rw [if_neg hr]
     exact ih (q - 1) (r + x9) (hd.down e hlt) (by omega) (by omega) (by omega) (by omega) (by omega) k (by omega)
   by_cases hB : q ≥ 4294967296
   ·rw [if_pos hB];exact go
   ·rw [if_neg hB]
    have hp : q * x10≤4294967295 * 4294967295:=Int.mul_le_mul (by omega) (by omega) y0l (by decide);have hp0 : 0≤q * x10:=Int.mul_nonneg (by omega) y0l;have hm : (4294967296 : Int) * r = r * 4294967296:=Int.mul_comm _ _;rw [ad hp0 (by omega),ad (n:=4294967296 * r) (by omega) (by omega),ad (n:=4294967296 * r + x14) (by omega) (by omega),decide_eq_true ht1]
    exact go
  ·obtain rfl : q = Q:=by omega
   have ht1 : ¬ (q * x10 > 4294967296 * r + x14):=fun h=>hlt (ht.mp h)
   rw [if_neg (by omega)]
   have hp : q * x10≤4294967295 * 4294967295:=Int.mul_le_mul (by omega) (by omega) y0l (by decide);have hp0 : 0≤q * x10:=Int.mul_nonneg (by omega) y0l;have hm : (4294967296 : Int) * r = r * 4294967296:=Int.mul_comm _ _;rw [ad hp0 (by omega),ad (n:=4294967296 * r) (by omega) (by omega),ad (n:=4294967296 * r + x14) (by omega) (by omega),decide_eq_false ht1]
   simp only [bits_Div64.j4]
   rw [if_neg (by decide)]
   exact hres
/-- the two digits,one behind the other -/
theorem bits_Div64.digits {y s : Nat} {N u u1 u0 S : Int} (hs : s≤63) (hS : S = 2 ^ s) (hy1 : 9223372036854775808≤(y : Int) * S) (hy2 : (y : Int) * S < 18446744073709551616)
  (hu : 0≤u) (huy : u < (y : Int) * S) (h1 : 0≤u1) (h1' : u1 < 4294967296) (h0 : 0≤u0) (h0' : u0 < 4294967296) (hN : N * S = (u * 4294967296 + u1) * 4294967296 + u0) (k : Nat) (hk : 30≤k) :
  bits_Div64.l0 k ((y : Int) * S) s ((y : Int) * S / 4294967296) ((y : Int) * S % 4294967296) u u1 u0 (u / ((y : Int) * S / 4294967296)) (u % ((y : Int) * S / 4294967296)) = some (N / y,N % y):=by
 have hSp : 0 < S:=by rw [hS];exact Int.pow_pos (by decide)
 have hyp : 0 < (y : Int):=by
  rcases Nat.eq_zero_or_pos y with h|h
  ·subst h;simp at hy1
  ·omega
 generalize hY : (y : Int) * S = Y at *;have hYe : Y / 4294967296 * 4294967296 + Y % 4294967296 = Y:=by omega
 obtain ⟨Q1,hQ1⟩ : ∃ Q,(u * 4294967296 + u1) / Y = Q:=⟨_,rfl⟩
 have hd : M.Dig u (Y / 4294967296) (Y % 4294967296) u1 Q1:=⟨by omega,by omega,by omega,by omega,h1,h1',hu,by omega,by rw [hYe];exact hQ1⟩
 have hr:=hd.rest;rw [hYe] at hr
 have hr0:=Int.emod_nonneg (u * 4294967296 + u1) (show Y≠0 by omega);have hr1:=Int.emod_lt_of_pos (u * 4294967296 + u1) (show 0 < Y by omega);have he1:=Int.emod_def (u * 4294967296 + u1) Y;rw [hQ1] at he1
 generalize hR : (u * 4294967296 + u1) % Y = R1 at *;obtain ⟨Q0,hQ0⟩ : ∃ Q,(R1 * 4294967296 + u0) / Y = Q:=⟨_,rfl⟩
 have hd0 : M.Dig R1 (Y / 4294967296) (Y % 4294967296) u0 Q0:=⟨by omega,by omega,by omega,by omega,h0,h0',hr0,by omega,by rw [hYe];exact hQ0⟩
 have hrr:=hd0.rest;rw [hYe] at hrr
 have hq0:=Int.emod_nonneg (R1 * 4294967296 + u0) (show Y≠0 by omega);have hq1:=Int.emod_lt_of_pos (R1 * 4294967296 + u0) (show 0 < Y by omega);have he0:=Int.emod_def (R1 * 4294967296 + u0) Y;rw [hQ0] at he0
 generalize hR0 : (R1 * 4294967296 + u0) % Y = R0 at *;have b1:=hd.q_lt;have b0:=hd0.q_lt;have two:=M.two_digits (N:=N) (Y:=(y : Int)) (S:=S) (q1:=Q1) (q0:=Q0) (r1:=R1) (r0:=R0) (u:=u) (u1:=u1) (u0:=u0) hSp hyp hN (by rw [hY,he1,Int.mul_comm Q1 Y];omega) (by rw [hY,he0,Int.mul_comm Q0 Y];omega) hq0 (by rw [hY];exact hq1);have g1:=hd.guess;have g0:=hd0.guess;have hy1p : 0 < Y / 4294967296:=by omega
 have hres : (if 0≤(s : Int) then some (aa.wrap ((aa.wrap (Q1 * 4294967296)) + Q0),shr .u64 (aa.wrap ((aa.wrap ((aa.wrap (R1 * 4294967296)) + u0)) - (aa.wrap (Q0 * Y)))) s) else none) = some (N / y,N % y):=by
  rw [if_pos (by omega),hrr,ad (n:=Q1 * 4294967296) (by omega) (by omega),ad (n:=Q1 * 4294967296 + Q0) (by omega) (by omega)]
  unfold shr
  rw [Int.toNat_natCast,show min s (aa).bits = s from Nat.min_eq_left (by show s≤64;omega),two.1,two.2,hS]
 have hk2 : ∀ k,9≤k→bits_Div64.j2 k Y s (Y / 4294967296) (Y % 4294967296) u u1 u0 Q1 = some (N / y,N % y):=by
  intro k hk;obtain ⟨k,rfl⟩ : ∃ m,k = m + 1:=⟨k - 1,by omega⟩
  simp only [bits_Div64.j2]
  rw [if_neg (by omega),hr]
  have hw : aa.wrap (Int.tdiv R1 (Y / 4294967296)) = R1 / (Y / 4294967296):=by
   rw [M.tdivu hr0]
   exact ad (Int.ediv_nonneg hr0 (by omega)) (by omega)
  have em:=Int.emod_def R1 (Y / 4294967296);have em0:=Int.emod_nonneg R1 (show Y / 4294967296≠0 by omega);have em1:=Int.emod_lt_of_pos R1 hy1p
  have hw2 : aa.wrap (R1 - aa.wrap (R1 / (Y / 4294967296) * (Y / 4294967296))) = R1 % (Y / 4294967296):=by
   rw [Int.mul_comm (R1 / (Y / 4294967296))]
   generalize R1 % (Y / 4294967296) = m at *;generalize Y / 4294967296 * (R1 / (Y / 4294967296)) = p at *;simp only [M.wrapu]
   omega
  rw [hw,hw2]
  refine bits_Div64.step1 hd0 hres 2 (R1 / (Y / 4294967296)) (R1 % (Y / 4294967296)) ?_ g0.1 g0.2 em0 (by omega) (by omega) k (by omega);rw [em,Int.mul_comm (R1 / (Y / 4294967296))];omega
 have em:=Int.emod_def u (Y / 4294967296);have em0:=Int.emod_nonneg u (show Y / 4294967296≠0 by omega);have em1:=Int.emod_lt_of_pos u hy1p;refine bits_Div64.step0 hd hk2 2 (u / (Y / 4294967296)) (u % (Y / 4294967296)) ?_ g1.1 g1.2 em0 (by omega) (by omega) k (by omega);rw [em,Int.mul_comm (u / (Y / 4294967296))];omega
theorem bits_Div64.tells (a0 a1 a2 : Int) (h : 0≤a0∧a0 < a2∧a2 < 18446744073709551616∧0≤a1∧a1 < 18446744073709551616) (k : Nat) (hk : 31≤k) :
  bits_Div64.f k a0 a1 a2 = some ((a0 * 18446744073709551616 + a1) / a2,(a0 * 18446744073709551616 + a1) % a2):=by
 obtain ⟨p0,p1,p2,p3,p4⟩:=h;unfold bits_Div64.f
 rw [if_neg (by omega),if_neg (by omega)]
 by_cases hz : a0 = 0
 ·subst hz;rw [if_pos rfl,M.tdivu p3,M.tmodu p3,ad (Int.ediv_nonneg p3 (by omega)) (Int.lt_of_le_of_lt (Int.ediv_le_self _ p3) p4),Int.zero_mul,Int.zero_add]
 ·rw [if_neg hz]
  obtain ⟨h,rfl⟩:=Int.eq_ofNat_of_zero_le p0;obtain ⟨l,rfl⟩:=Int.eq_ofNat_of_zero_le p3;obtain ⟨y,rfl⟩:=Int.eq_ofNat_of_zero_le (show 0≤a2 by omega);have hb:=Go.Lib.bitLenAux_bounds 64 y (by omega) (by omega);have hl64 : Go.Lib.bitLenAux 64 y≤64:=Go.Lib.bitLen_le y 64 (ak _) (by omega)
  have hlz : bits_LeadingZeros64.f (y : Int) = some ((64 - Go.Lib.bitLenAux 64 y : Nat) : Int):=by
   unfold bits_LeadingZeros64.f bits_Len64.f
   rw [if_pos ⟨by omega,p2⟩,Option.bind_some,M.w64_id]
   ·show some (64 - ((Go.Lib.bitLenAux 64 y : Nat) : Int)) = _
    congr 1
    omega
   ·show -9223372036854775808≤64 - ((Go.Lib.bitLenAux 64 y : Nat) : Int)
    omega
   ·show 64 - ((Go.Lib.bitLenAux 64 y : Nat) : Int) < 9223372036854775808
    omega
  rw [hlz,Option.bind_some]
  generalize Go.Lib.bitLenAux 64 y = L at *;obtain ⟨s,hs⟩ : ∃ s,64 - L = s:=⟨_,rfl⟩
  rw [hs]
  have hs63 : s≤63:=by omega
  have hpow : (2 : Nat) ^ L * 2 ^ s = 18446744073709551616:=by rw [← Nat.pow_add,show L + s = 64 by omega]
  have hpow1 : (2 : Nat) ^ (L - 1) * 2 ^ s = 9223372036854775808:=by rw [← Nat.pow_add,show L - 1 + s = 63 by omega]
  have hY1 : 9223372036854775808≤y * 2 ^ s:=by rw [← hpow1];exact Nat.mul_le_mul_right _ hb.2.1
  have hY2 : y * 2 ^ s < 18446744073709551616:=by rw [← hpow];exact Nat.mul_lt_mul_of_pos_right hb.2.2 (Nat.pow_pos (by decide))
  have hH : h * 2 ^ s + 2 ^ s≤y * 2 ^ s:=by
   have:=Nat.mul_le_mul_right (2 ^ s) (show h + 1≤y by omega);rw [Nat.add_mul,Nat.one_mul] at this
   exact this
  have hSpos : 0 < 2 ^ s:=Nat.pow_pos (by decide);have cs : ((2 ^ s : Nat) : Int) = (2 : Int) ^ s:=by rw [Int.natCast_pow];rfl
  have ws : aa.wrap (s : Int) = (s : Int):=ad (by omega) (by omega);have ws2 : aa.wrap (64 - (s : Int)) = ((64 - s : Nat) : Int):=by rw [ad (by omega) (by omega)];omega
  have m1 : min s (aa).bits = s:=Nat.min_eq_left (by show s≤64;omega);have m2 : min (64 - s) (aa).bits = 64 - s:=Nat.min_eq_left (by show 64 - s≤64;omega)
  have hsy : shl .u64 (y : Int) (s : Int) = ((y * 2 ^ s : Nat) : Int):=by
   unfold shl
   rw [Int.toNat_natCast,m1,Int.natCast_mul,cs,ad] <;> rw [← cs,← Int.natCast_mul] <;> omega
  have hsh : shl .u64 (h : Int) (s : Int) = ((h * 2 ^ s : Nat) : Int):=by
   unfold shl
   rw [Int.toNat_natCast,m1,Int.natCast_mul,cs,ad] <;> rw [← cs,← Int.natCast_mul] <;> omega
  have hsl : shl .u64 (l : Int) (s : Int) = ((l * 2 ^ s % 18446744073709551616 : Nat) : Int):=by
   unfold shl
   rw [Int.toNat_natCast,m1,M.wrapu,← cs,← Int.natCast_mul]
   omega
  have hrl : shr .u64 (l : Int) ((64 - s : Nat) : Int) = ((l / 2 ^ (64 - s) : Nat) : Int):=by
   unfold shr
   rw [Int.toNat_natCast,m2,Int.natCast_ediv,Int.natCast_pow];rfl
  have hdl : l / 2 ^ (64 - s) < 2 ^ s:=by
   apply Nat.div_lt_of_lt_mul
   rw [← Nat.pow_add,show 64 - s + s = 64 by omega]
   omega
  have hdm : l * 2 ^ s / 18446744073709551616 = l / 2 ^ (64 - s):=by
   have : 18446744073709551616 = 2 ^ (64 - s) * 2 ^ s:=by rw [← Nat.pow_add,show 64 - s + s = 64 by omega]
   rw [this,Nat.mul_div_mul_right _ _ hSpos]
  rw [ws,if_pos (by omega),ws2,if_pos (by omega),hsy,hsh,hsl,hrl,M.or_join h l s hs63 (by omega) (by omega)]
  rw [M.and_low _ (by omega) (by omega),M.and_low _ (by omega) (by omega)]
  have hSe : ((2 ^ s : Nat) : Int) = 2 ^ s:=cs;have hmy : ((y * 2 ^ s : Nat) : Int) = (y : Int) * ((2 ^ s : Nat) : Int):=Int.natCast_mul _ _;generalize hS : (2 ^ s : Nat) = S at *;generalize hu : h * S + l / 2 ^ (64 - s) = u at *;generalize hv : l * S % 18446744073709551616 = v at *;rw [hmy] at *
  have hyp : 0 < ((y : Int) * (S : Int)) / 4294967296:=by omega
  have em:=Int.emod_def (u : Int) (((y : Int) * (S : Int)) / 4294967296);have em0:=Int.emod_nonneg (u : Int) (show ((y : Int) * (S : Int)) / 4294967296≠0 by omega);have em1:=Int.emod_lt_of_pos (u : Int) hyp;have hun : (u : Int) / (((y : Int) * (S : Int)) / 4294967296)≤u:=Int.ediv_le_self _ (by omega)
  have hw : aa.wrap (Int.tdiv (u : Int) (((y : Int) * (S : Int)) / 4294967296)) = (u : Int) / (((y : Int) * (S : Int)) / 4294967296):=by
   rw [M.tdivu (by omega)]
   exact ad (Int.ediv_nonneg (by omega) (by omega)) (by omega)
  have hw2 : aa.wrap ((u : Int) - aa.wrap ((u : Int) / (((y : Int) * (S : Int)) / 4294967296) * (((y : Int) * (S : Int)) / 4294967296))) = (u : Int) % (((y : Int) * (S : Int)) / 4294967296):=by
   rw [Int.mul_comm ((u : Int) / (((y : Int) * (S : Int)) / 4294967296))]
   generalize (u : Int) % (((y : Int) * (S : Int)) / 4294967296) = m at *;generalize ((y : Int) * (S : Int)) / 4294967296 * ((u : Int) / (((y : Int) * (S : Int)) / 4294967296)) = p at *;simp only [M.wrapu]
   omega
  rw [if_neg (by omega),hw,hw2]
  refine bits_Div64.digits hs63 hSe (by omega) (by omega) (by omega) ?_ (by omega) (by omega) (by omega) (by omega) ?_ k (by omega)
  ·omega
  ·have e1 : ((h : Int) * 18446744073709551616 + l) * (S : Int) = (h * S : Nat) * 18446744073709551616 + (l * S : Nat):=by
    rw [Int.add_mul,Int.natCast_mul,Int.natCast_mul,Int.mul_right_comm]
   rw [e1]
   omega
def bits_Div64_s.f (a0 : Int) (a1 : Int) (a2 : Int) : Option (Int × Int):=
 if 0≤a0∧a0 < a2∧a2 < 18446744073709551616∧0≤a1∧a1 < 18446744073709551616 then some ((a0 * 18446744073709551616 + a1) / a2,(a0 * 18446744073709551616 + a1) % a2) else none
theorem bits_Div64_s.calls (a0 : Int) (a1 : Int) (a2 : Int) (r1 : Int) (r2 : Int) (w : World) (h : bits_Div64_s.f a0 a1 a2 = some (r1,r2)) :
  Calls Try.prog 33 #[.int .u64 a0,.int .u64 a1,.int .u64 a2] w fun e w'=>e = .returned (.tuple #[.int .u64 r1,.int .u64 r2])∧Drawn0 w w':=by
 unfold bits_Div64_s.f at h
 split at h
 ·rename_i hr
  exact bits_Div64.calls 31 a0 a1 a2 r1 r2 w ((bits_Div64.tells a0 a1 a2 hr 31 (ak _)).trans h)
 ·cases h
def cents_further.f (a0 : Int) (a1 : Int) (a2 : Int) (a3 : Bool) (a4 : Int) : Option (Bool):=if a4 = 1 then (if a3 = true then (some (decide (a1 > 0))) else (some false)) else (if a4 = 2 then (if a3 = true then (some false) else (some (decide (a1 > 0)))) else (if a4 = 3 then (if a1 > (aa.wrap (a2 - a1)) then (some true) else (some (a1 == (aa.wrap (a2 - a1))))) else (if a1 > (aa.wrap (a2 - a1)) then (some true) else (if a1 = (aa.wrap (a2 - a1)) then (some ((Go.bits .and .u64 a0 1) == 1)) else (some false)))))
theorem cents_further.calls (a0 : Int) (a1 : Int) (a2 : Int) (a3 : Bool) (a4 : Int) (r : Bool) (w : World) (h : cents_further.f a0 a1 a2 a3 a4 = some r) :
  Calls Try.prog 34 #[.int .u64 a0,.int .u64 a1,.int .u64 a2,.bool a3,.int .i64 a4] w fun e w'=>e = .returned (.bool r)∧Drawn0 w w':=by
 have H : (if a4 = 1 then (if a3 = true then (some (decide (a1 > 0))) else (some false)) else (if a4 = 2 then (if a3 = true then (some false) else (some (decide (a1 > 0)))) else (if a4 = 3 then (if a1 > (aa.wrap (a2 - a1)) then (some true) else (some (a1 == (aa.wrap (a2 - a1))))) else (if a1 > (aa.wrap (a2 - a1)) then (some true) else (if a1 = (aa.wrap (a2 - a1)) then (some ((Go.bits .and .u64 a0 1) == 1)) else (some false)))))) = some r:=h;clear h;by_cases c6 : a4 = 1
 ·rw [if_pos c6] at H
  have c6b0 : (a4 == 1) = true:=beq_iff_eq.mpr c6;have c6b1 : (a4 != 1) = false:=bne_eq_false_iff_eq.mpr c6;clear c6;by_cases c7 : a3 = true
  ·subst c7;have H1 : (some (decide (a1 > 0))) = some r:=by rw [if_pos rfl] at H;exact H
   clear H;have H:=H1;clear H1;obtain rfl:=Option.some.inj H;go_enter Try.func34,Try.ntmps34
   go_wp2
   go_ret
   exact ⟨by first|rfl|(simp;done)|(simp [*];done),by repeat (first|exact ab _|apply ac)⟩
  ·replace c7:=ah.mpr c7;subst c7;have H1 : (some false) = some r:=by rw [if_neg (show ¬ (false = true) by decide)] at H;exact H
   clear H;have H:=H1;clear H1;obtain rfl:=Option.some.inj H;go_enter Try.func34,Try.ntmps34
   go_wp2
   go_ret
   exact ⟨by first|rfl|(simp;done)|(simp [*];done),by repeat (first|exact ab _|apply ac)⟩
 ·rw [if_neg c6] at H
  have c6b0 : (a4 == 1) = false:=beq_eq_false_iff_ne.mpr c6;have c6b1 : (a4 != 1) = true:=bne_iff_ne.mpr c6;by_cases c8 : a4 = 2
  ·rw [if_pos c8] at H
   have c8b0 : (a4 == 2) = true:=beq_iff_eq.mpr c8;have c8b1 : (a4 != 2) = false:=bne_eq_false_iff_eq.mpr c8;clear c8;by_cases c9 : a3 = true
   ·subst c9;have H1 : (some false) = some r:=by rw [if_pos rfl] at H;exact H
    clear H;have H:=H1;clear H1;obtain rfl:=Option.some.inj H;go_enter Try.func34,Try.ntmps34
    go_wp2
    go_ret
    exact ⟨by first|rfl|(simp;done)|(simp [*];done),by repeat (first|exact ab _|apply ac)⟩
   ·replace c9:=ah.mpr c9;subst c9;have H1 : (some (decide (a1 > 0))) = some r:=by rw [if_neg (show ¬ (false = true) by decide)] at H;exact H
    clear H;have H:=H1;clear H1;obtain rfl:=Option.some.inj H;go_enter Try.func34,Try.ntmps34
    go_wp2
    go_ret
    exact ⟨by first|rfl|(simp;done)|(simp [*];done),by repeat (first|exact ab _|apply ac)⟩
  ·rw [if_neg c8] at H
   have c8b0 : (a4 == 2) = false:=beq_eq_false_iff_ne.mpr c8;have c8b1 : (a4 != 2) = true:=bne_iff_ne.mpr c8;by_cases c10 : a4 = 3
   ·rw [if_pos c10] at H
    have c10b0 : (a4 == 3) = true:=beq_iff_eq.mpr c10;have c10b1 : (a4 != 3) = false:=bne_eq_false_iff_eq.mpr c10;clear c10;by_cases c11 : a1 > (aa.wrap (a2 - a1))
    ·rw [if_pos c11] at H
     have c11b0 : decide ((aa.wrap (a2 - a1)) < a1) = true:=decide_eq_true c11;clear c11;obtain rfl:=Option.some.inj H;go_enter Try.func34,Try.ntmps34
     go_wp2
     go_ret
     exact ⟨by first|rfl|(simp;done)|(simp [*];done),by repeat (first|exact ab _|apply ac)⟩
    ·rw [if_neg c11] at H
     have c11b0 : decide ((aa.wrap (a2 - a1)) < a1) = false:=decide_eq_false c11;clear c11;obtain rfl:=Option.some.inj H;go_enter Try.func34,Try.ntmps34
     go_wp2
     go_ret
     exact ⟨by first|rfl|(simp;done)|(simp [*];done),by repeat (first|exact ab _|apply ac)⟩
   ·rw [if_neg c10] at H
    have c10b0 : (a4 == 3) = false:=beq_eq_false_iff_ne.mpr c10;have c10b1 : (a4 != 3) = true:=bne_iff_ne.mpr c10;by_cases c12 : a1 > (aa.wrap (a2 - a1))
    ·rw [if_pos c12] at H
     have c12b0 : decide ((aa.wrap (a2 - a1)) < a1) = true:=decide_eq_true c12;clear c12;obtain rfl:=Option.some.inj H;go_enter Try.func34,Try.ntmps34
     go_wp2
     go_ret
     exact ⟨by first|rfl|(simp;done)|(simp [*];done),by repeat (first|exact ab _|apply ac)⟩
    ·rw [if_neg c12] at H
     have c12b0 : decide ((aa.wrap (a2 - a1)) < a1) = false:=decide_eq_false c12;clear c12;by_cases c13 : a1 = (aa.wrap (a2 - a1))
     ·rw [if_pos c13] at H
      have c13b0 : (a1 == (aa.wrap (a2 - a1))) = true:=beq_iff_eq.mpr c13;have c13b1 : (a1 != (aa.wrap (a2 - a1))) = false:=bne_eq_false_iff_eq.mpr c13;clear c13;obtain rfl:=Option.some.inj H;go_enter Try.func34,Try.ntmps34
      go_wp2
      go_ret
      exact ⟨by first|rfl|(simp;done)|(simp [*];done),by repeat (first|exact ab _|apply ac)⟩
     ·rw [if_neg c13] at H
      have c13b0 : (a1 == (aa.wrap (a2 - a1))) = false:=beq_eq_false_iff_ne.mpr c13;have c13b1 : (a1 != (aa.wrap (a2 - a1))) = true:=bne_iff_ne.mpr c13;obtain rfl:=Option.some.inj H;go_enter Try.func34,Try.ntmps34
      go_wp2
      go_ret
      exact ⟨by first|rfl|(simp;done)|(simp [*];done),by repeat (first|exact ab _|apply ac)⟩
def cents_signed.f (a0 : Int) (a1 : Bool) : Option (Int × Bool):=if a1 = true then (some (wrap64 (aa.wrap (-a0)),decide (a0≤9223372036854775808))) else (some (wrap64 (a0),decide (a0 < 9223372036854775808)))
theorem cents_signed.calls (a0 : Int) (a1 : Bool) (r1 : Int) (r2 : Bool) (w : World) (h : cents_signed.f a0 a1 = some (r1,r2)) :
  Calls Try.prog 35 #[.int .u64 a0,.bool a1] w fun e w'=>e = .returned (.tuple #[.int .i64 r1,.bool r2])∧Drawn0 w w':=by
 have H : (if a1 = true then (some (wrap64 (aa.wrap (-a0)),decide (a0≤9223372036854775808))) else (some (wrap64 (a0),decide (a0 < 9223372036854775808)))) = some (r1,r2):=h;clear h;by_cases c3 : a1 = true
 ·subst c3;have H1 : (some (wrap64 (aa.wrap (-a0)),decide (a0≤9223372036854775808))) = some (r1,r2):=by rw [if_pos rfl] at H;exact H
  clear H;have H:=H1;clear H1;simp only [af,Prod.mk.injEq] at H
  obtain ⟨rfl,rfl⟩:=H;go_enter Try.func35,Try.ntmps35
  go_wp2
  go_ret2
  exact ⟨by first|rfl|(simp;done)|(simp [*];done),by repeat (first|exact ab _|apply ac)⟩
 ·replace c3:=ah.mpr c3;subst c3;have H1 : (some (wrap64 (a0),decide (a0 < 9223372036854775808))) = some (r1,r2):=by rw [if_neg (show ¬ (false = true) by decide)] at H;exact H
  clear H;have H:=H1;clear H1;simp only [af,Prod.mk.injEq] at H
  obtain ⟨rfl,rfl⟩:=H;go_enter Try.func35,Try.ntmps35
  go_wp2
  go_ret2
  exact ⟨by first|rfl|(simp;done)|(simp [*];done),by repeat (first|exact ab _|apply ac)⟩
mutual
def cents_MulDiv.j0 : Nat→Int→Int→Int→Int→Bool→Option (Int × Option Int)
 | 0,_,_,_,_,_=>none
 | k + 1,x0,x1,x2,x3,x32=>if x32 = true then (some (0,some 1)) else ((ai x0).bind fun A=>((ai x1).bind fun t=>((ai x2).bind fun c=>((bits_Mul64_s.f A.1 t.1).bind fun i=>(if i.1 ≥ c.1 then (some (0,some 3)) else ((bits_Div64_s.f i.1 i.2 c.1).bind fun b=>(if b.2 > 0 then ((cents_further.f b.1 b.2 c.1 (!((!(A.2 == t.2)) == c.2)) x3).bind fun x=>(cents_MulDiv.j1 k (!((!(A.2 == t.2)) == c.2)) b.1 x)) else (cents_MulDiv.j1 k (!((!(A.2 == t.2)) == c.2)) b.1 false))))))))
def cents_MulDiv.j1 : Nat→Bool→Int→Bool→Option (Int × Option Int)
 | 0,_,_,_=>none
 | k + 1,x16,x19,x80=>if x80 = true then (if (aa.wrap (x19 + 1)) = 0 then (some (0,some 3)) else ((cents_signed.f (aa.wrap (x19 + 1)) x16).bind fun F=>(if F.2 = true then (some (F.1,none)) else (some (0,some 3))))) else ((cents_signed.f x19 x16).bind fun G=>(if G.2 = true then (some (G.1,none)) else (some (0,some 3))))
end
def cents_MulDiv.f (k : Nat) (a0 : Int) (a1 : Int) (a2 : Int) (a3 : Int) : Option (Int × Option Int):=if a2 = 0 then (cents_MulDiv.j0 k a0 a1 a2 a3 true) else (if a3 < 1 then (cents_MulDiv.j0 k a0 a1 a2 a3 true) else (cents_MulDiv.j0 k a0 a1 a2 a3 (decide (a3 > 4))))
theorem cents_MulDiv.calls (k : Nat) (a0 : Int) (a1 : Int) (a2 : Int) (a3 : Int) (r1 : Int) (r2 : Option Int) (w : World) (h : cents_MulDiv.f k a0 a1 a2 a3 = some (r1,r2)) :
  Calls Try.prog 20 #[.int .i64 a0,.int .i64 a1,.int .i64 a2,.int .i64 a3] w fun e w'=>e = .returned (.tuple #[.int .i64 r1,errW r2])∧Drawn0 w w':=by
 have hu24:=Try.underlying24;have hu29:=Try.underlying29;have H : (if a2 = 0 then (cents_MulDiv.j0 k a0 a1 a2 a3 true) else (if a3 < 1 then (cents_MulDiv.j0 k a0 a1 a2 a3 true) else (cents_MulDiv.j0 k a0 a1 a2 a3 (decide (a3 > 4))))) = some (r1,r2):=h;clear h;have T:=ka H;clear H;go_enter Try.func20,Try.ntmps20
 go_upto_region 1 with (fail)
 go_cut [32] (fun b8 wc=>∃ (kq : Nat) (x32_4 : Bool),b8 = .bool x32_4∧Aside0 (cents_MulDiv.j0 kq a0 a1 a2 a3 x32_4 = some (r1,r2))∧Aside0 (kq≤k)∧Drawn0 w wc)
 case first=>
  have H:=T.out;clear T;by_cases c6 : a2 = 0
  ·rw [if_pos c6] at H
   have c6b0 : (a2 == 0) = true:=beq_iff_eq.mpr c6;have c6b1 : (a2 != 0) = false:=bne_eq_false_iff_eq.mpr c6;clear c6;(first|rw [c6b0]|(simp only [i64_w,i32_w];rw [c6b0])|skip);have H':=ka H;clear H;go_wp2
   go_meet
   case rel=>exact ⟨_,(true),(by first|rfl|(simp;done)|(simp [*];done)),H',⟨by first|omega|exact ak _⟩,by repeat (first|exact ab _|apply ac)⟩
  ·rw [if_neg c6] at H
   have c6b0 : (a2 == 0) = false:=beq_eq_false_iff_ne.mpr c6;have c6b1 : (a2 != 0) = true:=bne_iff_ne.mpr c6;(first|rw [c6b0]|(simp only [i64_w,i32_w];rw [c6b0])|skip);by_cases c7 : a3 < 1
   ·rw [if_pos c7] at H
    have c7b0 : decide (a3 < 1) = true:=decide_eq_true c7;clear c7;have H':=ka H;clear H;go_wp2
    go_meet
    case rel=>exact ⟨_,(true),(by first|rfl|(simp;done)|(simp [*];done)),H',⟨by first|omega|exact ak _⟩,by repeat (first|exact ab _|apply ac)⟩
   ·rw [if_neg c7] at H
    have c7b0 : decide (a3 < 1) = false:=decide_eq_false c7;clear c7;have H':=ka H;clear H;go_wp2
    go_meet
    case rel=>exact ⟨_,(decide (a3 > 4)),(by first|rfl|(simp;done)|(simp [*];done)),H',⟨by first|omega|exact ak _⟩,by repeat (first|exact ab _|apply ac)⟩
 case rest=>
  clear T;try clear c2
  obtain ⟨kq,x32_4,rfl,HA,a9,⟨mc4,rfl⟩⟩:=hcut;cases kq with
  | zero=>exact absurd HA.out (by simp [cents_MulDiv.j0])
  | succ kj4=>
   have H:=HA.out;clear HA;simp only [cents_MulDiv.j0] at H
   by_cases c8 : x32_4 = true
   ·subst c8;have H1 : (some (0,some 1)) = some (r1,r2):=by rw [if_pos rfl] at H;exact H
    clear H;have H:=H1;clear H1;simp only [af,Prod.mk.injEq] at H
    obtain ⟨rfl,rfl⟩:=H;go_wp2
    go_ret2
    exact ⟨by first|rfl|(simp;done)|(simp [*];done),by repeat (first|exact ab _|apply ac)⟩
   ·replace c8:=ah.mpr c8;subst c8;have H1 : ((ai a0).bind fun A=>((ai a1).bind fun t=>((ai a2).bind fun c=>((bits_Mul64_s.f A.1 t.1).bind fun i=>(if i.1 ≥ c.1 then (some (0,some 3)) else ((bits_Div64_s.f i.1 i.2 c.1).bind fun b=>(if b.2 > 0 then ((cents_further.f b.1 b.2 c.1 (!((!(A.2 == t.2)) == c.2)) a3).bind fun x=>(cents_MulDiv.j1 kj4 (!((!(A.2 == t.2)) == c.2)) b.1 x)) else (cents_MulDiv.j1 kj4 (!((!(A.2 == t.2)) == c.2)) b.1 false)))))))) = some (r1,r2):=by rw [if_neg (show ¬ (false = true) by decide)] at H;exact H
    clear H;have H:=H1;clear H1;replace H:=ae.mp H;obtain ⟨⟨B,d⟩,b2,H⟩:=H;replace H : ((ai a1).bind fun t=>((ai a2).bind fun c=>((bits_Mul64_s.f B t.1).bind fun i=>(if i.1 ≥ c.1 then (some (0,some 3)) else ((bits_Div64_s.f i.1 i.2 c.1).bind fun b=>(if b.2 > 0 then ((cents_further.f b.1 b.2 c.1 (!((!(d == t.2)) == c.2)) a3).bind fun x=>(cents_MulDiv.j1 kj4 (!((!(d == t.2)) == c.2)) b.1 x)) else (cents_MulDiv.j1 kj4 (!((!(d == t.2)) == c.2)) b.1 false))))))) = some (r1,r2):=H;have A9:=ka b2;clear b2;replace H:=ae.mp H;obtain ⟨⟨D,g⟩,U,H⟩:=H;replace H : ((ai a2).bind fun c=>((bits_Mul64_s.f B D).bind fun i=>(if i.1 ≥ c.1 then (some (0,some 3)) else ((bits_Div64_s.f i.1 i.2 c.1).bind fun b=>(if b.2 > 0 then ((cents_further.f b.1 b.2 c.1 (!((!(d == g)) == c.2)) a3).bind fun x=>(cents_MulDiv.j1 kj4 (!((!(d == g)) == c.2)) b.1 x)) else (cents_MulDiv.j1 kj4 (!((!(d == g)) == c.2)) b.1 false)))))) = some (r1,r2):=H;have b3:=ka U;clear U;replace H:=ae.mp H;obtain ⟨⟨z,j⟩,V,H⟩:=H;replace H : ((bits_Mul64_s.f B D).bind fun i=>(if i.1 ≥ z then (some (0,some 3)) else ((bits_Div64_s.f i.1 i.2 z).bind fun b=>(if b.2 > 0 then ((cents_further.f b.1 b.2 z (!((!(d == g)) == j)) a3).bind fun x=>(cents_MulDiv.j1 kj4 (!((!(d == g)) == j)) b.1 x)) else (cents_MulDiv.j1 kj4 (!((!(d == g)) == j)) b.1 false))))) = some (r1,r2):=H;have b4:=ka V;clear V;replace H:=ae.mp H;obtain ⟨⟨C,I⟩,W,H⟩:=H;replace H : (if C ≥ z then (some (0,some 3)) else ((bits_Div64_s.f C I z).bind fun b=>(if b.2 > 0 then ((cents_further.f b.1 b.2 z (!((!(d == g)) == j)) a3).bind fun x=>(cents_MulDiv.j1 kj4 (!((!(d == g)) == j)) b.1 x)) else (cents_MulDiv.j1 kj4 (!((!(d == g)) == j)) b.1 false)))) = some (r1,r2):=H;have b5:=ka W;clear W;by_cases c13 : C ≥ z
    ·rw [if_pos c13] at H
     have c13b0 : decide (z≤C) = true:=decide_eq_true c13;clear c13;simp only [af,Prod.mk.injEq] at H
     obtain ⟨rfl,rfl⟩:=H;go_wp2_with (first|((with_reducible refine ag (f:=31) rfl ?_);refine kg (some 36) rfl rfl Try.func31 (by kernel_rfl) rfl #[.int .i64 a0] rfl ?_;(with_reducible refine (aj a0 B d _ A9.out).mono ?_);rintro e w' ⟨rfl,⟨nd,rfl⟩⟩;refine ⟨_,rfl,?_⟩)|((with_reducible refine ag (f:=31) rfl ?_);refine kg (some 41) rfl rfl Try.func31 (by kernel_rfl) rfl #[.int .i64 a1] rfl ?_;(with_reducible refine (aj a1 D g _ b3.out).mono ?_);rintro e w' ⟨rfl,⟨nd,rfl⟩⟩;refine ⟨_,rfl,?_⟩)|((with_reducible refine ag (f:=31) rfl ?_);refine kg (some 46) rfl rfl Try.func31 (by kernel_rfl) rfl #[.int .i64 a2] rfl ?_;(with_reducible refine (aj a2 z j _ b4.out).mono ?_);rintro e w' ⟨rfl,⟨nd,rfl⟩⟩;refine ⟨_,rfl,?_⟩)|((with_reducible refine ag (f:=32) rfl ?_);refine kg (some 57) rfl rfl Try.func32 (by kernel_rfl) rfl #[.int .u64 B,.int .u64 D] rfl ?_;(with_reducible refine (bits_Mul64_s.calls B D C I _ b5.out).mono ?_);rintro e w' ⟨rfl,⟨nd,rfl⟩⟩;refine ⟨_,rfl,?_⟩))
     go_ret2
     exact ⟨by first|rfl|(simp;done)|(simp [*];done),by repeat (first|exact ab _|apply ac)⟩
    ·rw [if_neg c13] at H
     have c13b0 : decide (z≤C) = false:=decide_eq_false c13;clear c13;replace H:=ae.mp H;obtain ⟨⟨o,E⟩,X,H⟩:=H;replace H : (if E > 0 then ((cents_further.f o E z (!((!(d == g)) == j)) a3).bind fun x=>(cents_MulDiv.j1 kj4 (!((!(d == g)) == j)) o x)) else (cents_MulDiv.j1 kj4 (!((!(d == g)) == j)) o false)) = some (r1,r2):=H;have c0:=ka X;clear X;have R:=ka H;clear H;go_upto_region 11 with (first|((with_reducible refine ag (f:=31) rfl ?_);refine kg (some 36) rfl rfl Try.func31 (by kernel_rfl) rfl #[.int .i64 a0] rfl ?_;(with_reducible refine (aj a0 B d _ A9.out).mono ?_);rintro e w' ⟨rfl,⟨nd,rfl⟩⟩;refine ⟨_,rfl,?_⟩)|((with_reducible refine ag (f:=31) rfl ?_);refine kg (some 41) rfl rfl Try.func31 (by kernel_rfl) rfl #[.int .i64 a1] rfl ?_;(with_reducible refine (aj a1 D g _ b3.out).mono ?_);rintro e w' ⟨rfl,⟨nd,rfl⟩⟩;refine ⟨_,rfl,?_⟩)|((with_reducible refine ag (f:=31) rfl ?_);refine kg (some 46) rfl rfl Try.func31 (by kernel_rfl) rfl #[.int .i64 a2] rfl ?_;(with_reducible refine (aj a2 z j _ b4.out).mono ?_);rintro e w' ⟨rfl,⟨nd,rfl⟩⟩;refine ⟨_,rfl,?_⟩)|((with_reducible refine ag (f:=32) rfl ?_);refine kg (some 57) rfl rfl Try.func32 (by kernel_rfl) rfl #[.int .u64 B,.int .u64 D] rfl ?_;(with_reducible refine (bits_Mul64_s.calls B D C I _ b5.out).mono ?_);rintro e w' ⟨rfl,⟨nd,rfl⟩⟩;refine ⟨_,rfl,?_⟩)|((with_reducible refine ag (f:=33) rfl ?_);refine kg (some 68) rfl rfl Try.func33 (by kernel_rfl) rfl #[.int .u64 C,.int .u64 I,.int .u64 z] rfl ?_;(with_reducible refine (bits_Div64_s.calls C I z o E _ c0.out).mono ?_);rintro e w' ⟨rfl,⟨nd,rfl⟩⟩;refine ⟨_,rfl,?_⟩))
     (try simp only [Act.put,List.setIfInBounds_toArray,List.set_cons_zero,List.set_cons_succ]);go_cut [80] (fun c5 wc=>∃ (kq : Nat) (x80_14 : Bool),c5 = .bool x80_14∧Aside0 (cents_MulDiv.j1 kq (!((!(d == g)) == j)) o x80_14 = some (r1,r2))∧Aside0 (kq≤kj4)∧Drawn0 w wc)
     case first=>
      have H:=R.out;clear R;by_cases c16 : E > 0
      ·rw [if_pos c16] at H
       have c16b0 : decide (0 < E) = true:=decide_eq_true c16;clear c16;(first|rw [c16b0]|(simp only [i64_w,i32_w];rw [c16b0])|skip);replace H:=ae.mp H;obtain ⟨x,Z,H⟩:=H;replace H : (cents_MulDiv.j1 kj4 (!((!(d == g)) == j)) o x) = some (r1,r2):=H;have d0:=ka Z;clear Z;have H':=ka H;clear H;go_wp2_with (first|(go_at_call 34;(with_reducible refine (cents_further.calls o E z (!((!(d == g)) == j)) a3 x _ d0.out).mono ?_);rintro e w' ⟨rfl,⟨nd,rfl⟩⟩))
       go_meet
       case rel=>exact ⟨_,(x),(by first|rfl|(simp;done)|(simp [*];done)),H',⟨by have:=a9.out;first|omega|exact ak _⟩,by repeat (first|exact ab _|apply ac)⟩
      ·rw [if_neg c16] at H
       have c16b0 : decide (0 < E) = false:=decide_eq_false c16;clear c16;(first|rw [c16b0]|(simp only [i64_w,i32_w];rw [c16b0])|skip);have H':=ka H;clear H;go_wp2
       go_meet
       case rel=>exact ⟨_,(false),(by first|rfl|(simp;done)|(simp [*];done)),H',⟨by have:=a9.out;first|omega|exact ak _⟩,by repeat (first|exact ab _|apply ac)⟩
     case rest=>
      clear R;try clear c1
      try clear c2
      try clear c8
      try clear c13
      try clear c13b0
      obtain ⟨kq,x80_14,rfl,HA,d1,⟨mc14,rfl⟩⟩:=hcut;cases kq with
      | zero=>exact absurd HA.out (by simp [cents_MulDiv.j1])
      | succ kj14=>
       have H:=HA.out;clear HA;simp only [cents_MulDiv.j1] at H
       by_cases c18 : x80_14 = true
       ·subst c18;have H1 : (if (aa.wrap (o + 1)) = 0 then (some (0,some 3)) else ((cents_signed.f (aa.wrap (o + 1)) (!((!(d == g)) == j))).bind fun F=>(if F.2 = true then (some (F.1,none)) else (some (0,some 3))))) = some (r1,r2):=by rw [if_pos rfl] at H;exact H
        clear H;have H:=H1;clear H1;by_cases c19 : (aa.wrap (o + 1)) = 0
        ·rw [if_pos c19] at H
         have c19b0 : ((aa.wrap (o + 1)) == 0) = true:=beq_iff_eq.mpr c19;have c19b1 : ((aa.wrap (o + 1)) != 0) = false:=bne_eq_false_iff_eq.mpr c19;clear c19;simp only [af,Prod.mk.injEq] at H
         obtain ⟨rfl,rfl⟩:=H;go_wp2
         go_ret2
         exact ⟨by first|rfl|(simp;done)|(simp [*];done),by repeat (first|exact ab _|apply ac)⟩
        ·rw [if_neg c19] at H
         have c19b0 : ((aa.wrap (o + 1)) == 0) = false:=beq_eq_false_iff_ne.mpr c19;have c19b1 : ((aa.wrap (o + 1)) != 0) = true:=bne_iff_ne.mpr c19;replace H:=ae.mp H;obtain ⟨⟨J,a5⟩,a6,H⟩:=H;replace H : (if a5 = true then (some (J,none)) else (some (0,some 3))) = some (r1,r2):=H;have b6:=ka a6;clear a6;by_cases c21 : a5 = true
         ·subst c21;have H1 : (some (J,none)) = some (r1,r2):=by rw [if_pos rfl] at H;exact H
          clear H;have H:=H1;clear H1;simp only [af,Prod.mk.injEq] at H
          obtain ⟨rfl,rfl⟩:=H;go_wp2_with (first|((with_reducible refine ag (f:=35) rfl ?_);refine kg (some 89) rfl rfl Try.func35 (by kernel_rfl) rfl #[.int .u64 (aa.wrap (o + 1)),.bool (!((!(d == g)) == j))] rfl ?_;(with_reducible refine (cents_signed.calls (aa.wrap (o + 1)) (!((!(d == g)) == j)) J true _ b6.out).mono ?_);rintro e w' ⟨rfl,⟨nd,rfl⟩⟩;refine ⟨_,rfl,?_⟩))
          go_ret2
          exact ⟨by first|rfl|(simp;done)|(simp [*];done),by repeat (first|exact ab _|apply ac)⟩
         ·replace c21:=ah.mpr c21;subst c21;have H1 : (some (0,some 3)) = some (r1,r2):=by rw [if_neg (show ¬ (false = true) by decide)] at H;exact H
          clear H;have H:=H1;clear H1;simp only [af,Prod.mk.injEq] at H
          obtain ⟨rfl,rfl⟩:=H;go_wp2_with (first|((with_reducible refine ag (f:=35) rfl ?_);refine kg (some 89) rfl rfl Try.func35 (by kernel_rfl) rfl #[.int .u64 (aa.wrap (o + 1)),.bool (!((!(d == g)) == j))] rfl ?_;(with_reducible refine (cents_signed.calls (aa.wrap (o + 1)) (!((!(d == g)) == j)) J false _ b6.out).mono ?_);rintro e w' ⟨rfl,⟨nd,rfl⟩⟩;refine ⟨_,rfl,?_⟩))
          go_ret2
          exact ⟨by first|rfl|(simp;done)|(simp [*];done),by repeat (first|exact ab _|apply ac)⟩
       ·replace c18:=ah.mpr c18;subst c18;have H1 : ((cents_signed.f o (!((!(d == g)) == j))).bind fun G=>(if G.2 = true then (some (G.1,none)) else (some (0,some 3)))) = some (r1,r2):=by rw [if_neg (show ¬ (false = true) by decide)] at H;exact H
        clear H;have H:=H1;clear H1;replace H:=ae.mp H;obtain ⟨⟨O,a7⟩,a8,H⟩:=H;replace H : (if a7 = true then (some (O,none)) else (some (0,some 3))) = some (r1,r2):=H;have b7:=ka a8;clear a8;by_cases c23 : a7 = true
        ·subst c23;have H1 : (some (O,none)) = some (r1,r2):=by rw [if_pos rfl] at H;exact H
         clear H;have H:=H1;clear H1;simp only [af,Prod.mk.injEq] at H
         obtain ⟨rfl,rfl⟩:=H;go_wp2_with (first|((with_reducible refine ag (f:=35) rfl ?_);refine kg (some 89) rfl rfl Try.func35 (by kernel_rfl) rfl #[.int .u64 o,.bool (!((!(d == g)) == j))] rfl ?_;(with_reducible refine (cents_signed.calls o (!((!(d == g)) == j)) O true _ b7.out).mono ?_);rintro e w' ⟨rfl,⟨nd,rfl⟩⟩;refine ⟨_,rfl,?_⟩))
         go_ret2
         exact ⟨by first|rfl|(simp;done)|(simp [*];done),by repeat (first|exact ab _|apply ac)⟩
        ·replace c23:=ah.mpr c23;subst c23;have H1 : (some (0,some 3)) = some (r1,r2):=by rw [if_neg (show ¬ (false = true) by decide)] at H;exact H
         clear H;have H:=H1;clear H1;simp only [af,Prod.mk.injEq] at H
         obtain ⟨rfl,rfl⟩:=H;go_wp2_with (first|((with_reducible refine ag (f:=35) rfl ?_);refine kg (some 89) rfl rfl Try.func35 (by kernel_rfl) rfl #[.int .u64 o,.bool (!((!(d == g)) == j))] rfl ?_;(with_reducible refine (cents_signed.calls o (!((!(d == g)) == j)) O false _ b7.out).mono ?_);rintro e w' ⟨rfl,⟨nd,rfl⟩⟩;refine ⟨_,rfl,?_⟩))
         go_ret2
         exact ⟨by first|rfl|(simp;done)|(simp [*];done),by repeat (first|exact ab _|apply ac)⟩
end Go.Proofs.Ytghimjkoaldafaa.P
