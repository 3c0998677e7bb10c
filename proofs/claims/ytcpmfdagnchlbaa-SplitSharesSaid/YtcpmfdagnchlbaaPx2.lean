-- Written by a program of this session out of the translation of the seat: Lean functions and the proofs that the Go functions come to them.
import Derived.Test.YtcpmfdagnchlbaaPx0
import Derived.Test.YtcpmfdagnchlbaaPx1
namespace Go.Proofs.Ytcpmfdagnchlbaa.P
open Go.RowKit Go.Proofs.YtcpmfdagnchlbaaW.PrintWords Go.Proofs.YtcpmfdagnchlbaaW.PrintLast Go.Proofs.YtcpmfdagnchlbaaW.PrintMore
attribute [local go_sem] max2_int min2_int max_two min_two max_three min_three max_four min_four   -- for this text's walks alone
set_option linter.unusedVariables false
set_option linter.unusedSimpArgs false

/-! ### bits_Div64_s: function 21,told plainly -/
theorem bits_Div64.step0 {x2 x8 x9 x10 x11 x13 x14 Q : Int} {res : Int × Int} (hd : M.Dig x11 x9 x10 x13 Q) {K : Nat}
  (hk : ∀ k,K≤k→bits_Div64.j2 k x2 x8 x9 x10 x11 x13 x14 Q = some res) :
  ∀ (n : Nat) (q r : Int),q * x9 + r = x11→Q≤q→q≤4294967297→0≤r→r < 4294967296→4294967296≤r + n * 2147483648→
   ∀ k,K + 2 * n + 4≤k→bits_Div64.l0 k x2 x8 x9 x10 x11 x13 x14 q r = some res:=by
 intro n;induction n with
 | zero=>intro q r _ _ _ _ h1 h2;omega
 | succ n ih=>
  intro q r e hQ hq h0 h1 h2 k hkk;obtain ⟨k,rfl⟩ : ∃ m,k = m + 2:=⟨k - 2,by omega⟩
  have ht:=hd.test e hQ;have hb:=hd.q_lt;have y1l:=hd.y1l;have y1u:=hd.y1u;have y0l:=hd.y0l;have y0u:=hd.y0u;have dl:=hd.dl;have du:=hd.du;simp only [bits_Div64.l0]
  by_cases hlt : Q < q
  ·have ht1:=ht.mpr hlt
   have go : bits_Div64.j1 (k + 1) x2 x8 x9 x10 x11 x13 x14 q r true = some res:=by
    simp only [bits_Div64.j1]
    rw [if_pos trivial,M.wrapu_id (n:=r + x9) (by omega) (by omega),M.wrapu_id (n:=q - 1) (by omega) (by omega)]
    by_cases hr : r + x9 ≥ 4294967296
    ·rw [if_pos hr,hd.done (hd.down e hlt) (by omega) hr (by omega)]
     exact hk _ (by omega)
    ·rw [if_neg hr]
     exact ih (q - 1) (r + x9) (hd.down e hlt) (by omega) (by omega) (by omega) (by omega) (by omega) k (by omega)
   by_cases hB : q ≥ 4294967296
   ·rw [if_pos hB];exact go
   ·rw [if_neg hB]
    have hp : q * x10≤4294967295 * 4294967295:=Int.mul_le_mul (by omega) (by omega) y0l (by decide);have hp0 : 0≤q * x10:=Int.mul_nonneg (by omega) y0l;have hm : (4294967296 : Int) * r = r * 4294967296:=Int.mul_comm _ _;rw [M.wrapu_id hp0 (by omega),M.wrapu_id (n:=4294967296 * r) (by omega) (by omega),M.wrapu_id (n:=4294967296 * r + x13) (by omega) (by omega),decide_eq_true ht1]
    exact go
  ·obtain rfl : q = Q:=by omega
   have ht1 : ¬ (q * x10 > 4294967296 * r + x13):=fun h=>hlt (ht.mp h)
   rw [if_neg (by omega)]
   have hp : q * x10≤4294967295 * 4294967295:=Int.mul_le_mul (by omega) (by omega) y0l (by decide);have hp0 : 0≤q * x10:=Int.mul_nonneg (by omega) y0l;have hm : (4294967296 : Int) * r = r * 4294967296:=Int.mul_comm _ _;rw [M.wrapu_id hp0 (by omega),M.wrapu_id (n:=4294967296 * r) (by omega) (by omega),M.wrapu_id (n:=4294967296 * r + x13) (by omega) (by omega),decide_eq_false ht1]
   simp only [bits_Div64.j1]
   rw [if_neg (by decide)]
   exact hk _ (by omega)
theorem bits_Div64.step1 {x2 x8 x9 x10 x14 x15 x17 Q : Int} {res : Int × Int} (hd : M.Dig x17 x9 x10 x14 Q)
  (hres : (if 0≤x8 then some (IntKind.u64.wrap ((IntKind.u64.wrap (x15 * 4294967296)) + Q),shr .u64 (IntKind.u64.wrap ((IntKind.u64.wrap ((IntKind.u64.wrap (x17 * 4294967296)) + x14)) - (IntKind.u64.wrap (Q * x2)))) x8) else none) = some res) :
  ∀ (n : Nat) (q r : Int),q * x9 + r = x17→Q≤q→q≤4294967297→0≤r→r < 4294967296→4294967296≤r + n * 2147483648→
   ∀ k,2 * n + 4≤k→bits_Div64.l1 k x2 x8 x9 x10 x14 x15 r x17 q = some res:=by
 intro n;induction n with
 | zero=>intro q r _ _ _ _ h1 h2;omega
 | succ n ih=>
  intro q r e hQ hq h0 h1 h2 k hkk;obtain ⟨k,rfl⟩ : ∃ m,k = m + 2:=⟨k - 2,by omega⟩
  have ht:=hd.test e hQ;have hb:=hd.q_lt;have y1l:=hd.y1l;have y1u:=hd.y1u;have y0l:=hd.y0l;have y0u:=hd.y0u;have dl:=hd.dl;have du:=hd.du;simp only [bits_Div64.l1]
  by_cases hlt : Q < q
  ·have ht1:=ht.mpr hlt
   have go : bits_Div64.j4 (k + 1) x2 x8 x9 x10 x14 x15 r x17 q true = some res:=by
    simp only [bits_Div64.j4]
    rw [if_pos trivial,M.wrapu_id (n:=r + x9) (by omega) (by omega),M.wrapu_id (n:=q - 1) (by omega) (by omega)]
    by_cases hr : r + x9 ≥ 4294967296
    ·rw [if_pos hr,hd.done (hd.down e hlt) (by omega) hr (by omega)]
     exact hres
    ·rw [if_neg hr]
     exact ih (q - 1) (r + x9) (hd.down e hlt) (by omega) (by omega) (by omega) (by omega) (by omega) k (by omega)
   by_cases hB : q ≥ 4294967296
   ·rw [if_pos hB];exact go
   ·rw [if_neg hB]
    have hp : q * x10≤4294967295 * 4294967295:=Int.mul_le_mul (by omega) (by omega) y0l (by decide);have hp0 : 0≤q * x10:=Int.mul_nonneg (by omega) y0l;have hm : (4294967296 : Int) * r = r * 4294967296:=Int.mul_comm _ _;rw [M.wrapu_id hp0 (by omega),M.wrapu_id (n:=4294967296 * r) (by omega) (by omega),M.wrapu_id (n:=4294967296 * r + x14) (by omega) (by omega),decide_eq_true ht1]
    exact go
  ·obtain rfl : q = Q:=by omega
   have ht1 : ¬ (q * x10 > 4294967296 * r + x14):=fun h=>hlt (ht.mp h)
   rw [if_neg (by omega)]
   have hp : q * x10≤4294967295 * 4294967295:=Int.mul_le_mul (by omega) (by omega) y0l (by decide);have hp0 : 0≤q * x10:=Int.mul_nonneg (by omega) y0l;have hm : (4294967296 : Int) * r = r * 4294967296:=Int.mul_comm _ _;rw [M.wrapu_id hp0 (by omega),M.wrapu_id (n:=4294967296 * r) (by omega) (by omega),M.wrapu_id (n:=4294967296 * r + x14) (by omega) (by omega),decide_eq_false ht1]
   simp only [bits_Div64.j4]
   rw [if_neg (by decide)]
   exact hres
/-- the two digits,one behind the other -/
theorem bits_Div64.digits {y s : Nat} {N u u1 u0 S : Int} (hs : s≤63) (hS : S = 2 ^ s) (hy1 : 9223372036854775808≤(y : Int) * S) (hy2 : (y : Int) * S < 18446744073709551616)
  (hu : 0≤u) (huy : u < (y : Int) * S) (h1 : 0≤u1) (h1' : u1 < 4294967296) (h0 : 0≤u0) (h0' : u0 < 4294967296) (hN : N * S = (u * 4294967296 + u1) * 4294967296 + u0) (k : Nat) (hk : 30≤k) :
  bits_Div64.l0 k ((y : Int) * S) s ((y : Int) * S / 4294967296) ((y : Int) * S % 4294967296) u u1 u0 (u / ((y : Int) * S / 4294967296)) (u % ((y : Int) * S / 4294967296)) = some (N / y,N % y):=by
 have hSp : 0 < S:=by rw [hS];exact Int.pow_pos (by decide)
 have hyp : 0 < (y : Int):=by
  rcases Nat.eq_zero_or_pos y with h|h
  ·subst h;simp at hy1
  ·omega
 generalize hY : (y : Int) * S = Y at *;have hYe : Y / 4294967296 * 4294967296 + Y % 4294967296 = Y:=by omega
 obtain ⟨Q1,hQ1⟩ : ∃ Q,(u * 4294967296 + u1) / Y = Q:=⟨_,rfl⟩
 have hd : M.Dig u (Y / 4294967296) (Y % 4294967296) u1 Q1:=⟨by omega,by omega,by omega,by omega,h1,h1',hu,by omega,by rw [hYe];exact hQ1⟩
 have hr:=hd.rest;rw [hYe] at hr
 have hr0:=Int.emod_nonneg (u * 4294967296 + u1) (show Y≠0 by omega);have hr1:=Int.emod_lt_of_pos (u * 4294967296 + u1) (show 0 < Y by omega);have he1:=Int.emod_def (u * 4294967296 + u1) Y;rw [hQ1] at he1
 generalize hR : (u * 4294967296 + u1) % Y = R1 at *;obtain ⟨Q0,hQ0⟩ : ∃ Q,(R1 * 4294967296 + u0) / Y = Q:=⟨_,rfl⟩
 have hd0 : M.Dig R1 (Y / 4294967296) (Y % 4294967296) u0 Q0:=⟨by omega,by omega,by omega,by omega,h0,h0',hr0,by omega,by rw [hYe];exact hQ0⟩
 have hrr:=hd0.rest;rw [hYe] at hrr
 have hq0:=Int.emod_nonneg (R1 * 4294967296 + u0) (show Y≠0 by omega);have hq1:=Int.emod_lt_of_pos (R1 * 4294967296 + u0) (show 0 < Y by omega);have he0:=Int.emod_def (R1 * 4294967296 + u0) Y;rw [hQ0] at he0
 generalize hR0 : (R1 * 4294967296 + u0) % Y = R0 at *;have b1:=hd.q_lt;have b0:=hd0.q_lt;have two:=M.two_digits (N:=N) (Y:=(y : Int)) (S:=S) (q1:=Q1) (q0:=Q0) (r1:=R1) (r0:=R0) (u:=u) (u1:=u1) (u0:=u0) hSp hyp hN (by rw [hY,he1,Int.mul_comm Q1 Y];omega) (by rw [hY,he0,Int.mul_comm Q0 Y];omega) hq0 (by rw [hY];exact hq1);have g1:=hd.guess;have g0:=hd0.guess;have hy1p : 0 < Y / 4294967296:=by omega
 have hres : (if 0≤(s : Int) then some (IntKind.u64.wrap ((IntKind.u64.wrap (Q1 * 4294967296)) + Q0),shr .u64 (IntKind.u64.wrap ((IntKind.u64.wrap ((IntKind.u64.wrap (R1 * 4294967296)) + u0)) - (IntKind.u64.wrap (Q0 * Y)))) s) else none) = some (N / y,N % y):=by
  rw [if_pos (by omega),hrr,M.wrapu_id (n:=Q1 * 4294967296) (by omega) (by omega),M.wrapu_id (n:=Q1 * 4294967296 + Q0) (by omega) (by omega)]
  unfold shr
  rw [Int.toNat_natCast,show min s (IntKind.u64).bits = s from Nat.min_eq_left (by show s≤64;omega),two.1,two.2,hS]
 have hk2 : ∀ k,9≤k→bits_Div64.j2 k Y s (Y / 4294967296) (Y % 4294967296) u u1 u0 Q1 = some (N / y,N % y):=by
  intro k hk;obtain ⟨k,rfl⟩ : ∃ m,k = m + 1:=⟨k - 1,by omega⟩
  simp only [bits_Div64.j2]
  rw [if_neg (by omega),hr]
  have hw : IntKind.u64.wrap (Int.tdiv R1 (Y / 4294967296)) = R1 / (Y / 4294967296):=by
   rw [M.tdivu hr0]
   exact M.wrapu_id (Int.ediv_nonneg hr0 (by omega)) (by omega)
  have em:=Int.emod_def R1 (Y / 4294967296);have em0:=Int.emod_nonneg R1 (show Y / 4294967296≠0 by omega);have em1:=Int.emod_lt_of_pos R1 hy1p
  have hw2 : IntKind.u64.wrap (R1 - IntKind.u64.wrap (R1 / (Y / 4294967296) * (Y / 4294967296))) = R1 % (Y / 4294967296):=by
   rw [Int.mul_comm (R1 / (Y / 4294967296))]
   generalize R1 % (Y / 4294967296) = m at *;generalize Y / 4294967296 * (R1 / (Y / 4294967296)) = p at *;simp only [M.wrapu]
   omega
  rw [hw,hw2]
  refine bits_Div64.step1 hd0 hres 2 (R1 / (Y / 4294967296)) (R1 % (Y / 4294967296)) ?_ g0.1 g0.2 em0 (by omega) (by omega) k (by omega);rw [em,Int.mul_comm (R1 / (Y / 4294967296))];omega
 have em:=Int.emod_def u (Y / 4294967296);have em0:=Int.emod_nonneg u (show Y / 4294967296≠0 by omega);have em1:=Int.emod_lt_of_pos u hy1p;refine bits_Div64.step0 hd hk2 2 (u / (Y / 4294967296)) (u % (Y / 4294967296)) ?_ g1.1 g1.2 em0 (by omega) (by omega) k (by omega);rw [em,Int.mul_comm (u / (Y / 4294967296))];omega
theorem bits_Div64.tells (a0 a1 a2 : Int) (h : 0≤a0∧a0 < a2∧a2 < 18446744073709551616∧0≤a1∧a1 < 18446744073709551616) (k : Nat) (hk : 31≤k) :
  bits_Div64.f k a0 a1 a2 = some ((a0 * 18446744073709551616 + a1) / a2,(a0 * 18446744073709551616 + a1) % a2):=by
 obtain ⟨p0,p1,p2,p3,p4⟩:=h;unfold bits_Div64.f
 rw [if_neg (by omega),if_neg (by omega)]
 by_cases hz : a0 = 0
 ·subst hz;rw [if_pos rfl,M.tdivu p3,M.tmodu p3,M.wrapu_id (Int.ediv_nonneg p3 (by omega)) (Int.lt_of_le_of_lt (Int.ediv_le_self _ p3) p4),Int.zero_mul,Int.zero_add]
 ·rw [if_neg hz]
  obtain ⟨h,rfl⟩:=Int.eq_ofNat_of_zero_le p0;obtain ⟨l,rfl⟩:=Int.eq_ofNat_of_zero_le p3;obtain ⟨y,rfl⟩:=Int.eq_ofNat_of_zero_le (show 0≤a2 by omega);have hb:=Go.Lib.bitLenAux_bounds 64 y (by omega) (by omega);have hl64 : Go.Lib.bitLenAux 64 y≤64:=Go.Lib.bitLen_le y 64 (Nat.le_refl _) (by omega)
  have hlz : bits_LeadingZeros64.f (y : Int) = some ((64 - Go.Lib.bitLenAux 64 y : Nat) : Int):=by
   unfold bits_LeadingZeros64.f bits_Len64.f
   rw [if_pos ⟨by omega,p2⟩,Option.bind_some,M.w64_id]
   ·show some (64 - ((Go.Lib.bitLenAux 64 y : Nat) : Int)) = _
    congr 1
    omega
   ·show -9223372036854775808≤64 - ((Go.Lib.bitLenAux 64 y : Nat) : Int)
    omega
   ·show 64 - ((Go.Lib.bitLenAux 64 y : Nat) : Int) < 9223372036854775808
    omega
  rw [hlz,Option.bind_some]
  generalize Go.Lib.bitLenAux 64 y = L at *;obtain ⟨s,hs⟩ : ∃ s,64 - L = s:=⟨_,rfl⟩
  rw [hs]
  have hs63 : s≤63:=by omega
  have hpow : (2 : Nat) ^ L * 2 ^ s = 18446744073709551616:=by rw [← Nat.pow_add,show L + s = 64 by omega]
  have hpow1 : (2 : Nat) ^ (L - 1) * 2 ^ s = 9223372036854775808:=by rw [← Nat.pow_add,show L - 1 + s = 63 by omega]
  have hY1 : 9223372036854775808≤y * 2 ^ s:=by rw [← hpow1];exact Nat.mul_le_mul_right _ hb.2.1
  have hY2 : y * 2 ^ s < 18446744073709551616:=by rw [← hpow];exact Nat.mul_lt_mul_of_pos_right hb.2.2 (Nat.pow_pos (by decide))
  have hH : h * 2 ^ s + 2 ^ s≤y * 2 ^ s:=by
   have:=Nat.mul_le_mul_right (2 ^ s) (show h + 1≤y by omega);rw [Nat.add_mul,Nat.one_mul] at this
   exact this
  have hSpos : 0 < 2 ^ s:=Nat.pow_pos (by decide);have cs : ((2 ^ s : Nat) : Int) = (2 : Int) ^ s:=by rw [Int.natCast_pow];rfl
  have ws : IntKind.u64.wrap (s : Int) = (s : Int):=M.wrapu_id (by omega) (by omega);have ws2 : IntKind.u64.wrap (64 - (s : Int)) = ((64 - s : Nat) : Int):=by rw [M.wrapu_id (by omega) (by omega)];omega
  have m1 : min s (IntKind.u64).bits = s:=Nat.min_eq_left (by show s≤64;omega);have m2 : min (64 - s) (IntKind.u64).bits = 64 - s:=Nat.min_eq_left (by show 64 - s≤64;omega)
  have hsy : shl .u64 (y : Int) (s : Int) = ((y * 2 ^ s : Nat) : Int):=by
   unfold shl
   rw [Int.toNat_natCast,m1,Int.natCast_mul,cs,M.wrapu_id] <;> rw [← cs,← Int.natCast_mul] <;> omega
  have hsh : shl .u64 (h : Int) (s : Int) = ((h * 2 ^ s : Nat) : Int):=by
   unfold shl
   rw [Int.toNat_natCast,m1,Int.natCast_mul,cs,M.wrapu_id] <;> rw [← cs,← Int.natCast_mul] <;> omega
  have hsl : shl .u64 (l : Int) (s : Int) = ((l * 2 ^ s % 18446744073709551616 : Nat) : Int):=by
   unfold shl
   rw [Int.toNat_natCast,m1,M.wrapu,← cs,← Int.natCast_mul]
   omega
  have hrl : shr .u64 (l : Int) ((64 - s : Nat) : Int) = ((l / 2 ^ (64 - s) : Nat) : Int):=by
   unfold shr
   rw [Int.toNat_natCast,m2,Int.natCast_ediv,Int.natCast_pow];rfl
  have hdl : l / 2 ^ (64 - s) < 2 ^ s:=by
   apply Nat.div_lt_of_lt_mul
   rw [← Nat.pow_add,show 64 - s + s = 64 by omega]
   omega
  have hdm : l * 2 ^ s / 18446744073709551616 = l / 2 ^ (64 - s):=by
   have : 18446744073709551616 = 2 ^ (64 - s) * 2 ^ s:=by rw [← Nat.pow_add,show 64 - s + s = 64 by omega]
   rw [this,Nat.mul_div_mul_right _ _ hSpos]
  rw [ws,if_pos (by omega),ws2,if_pos (by omega),hsy,hsh,hsl,hrl,M.or_join h l s hs63 (by omega) (by omega)]
  rw [M.and_low _ (by omega) (by omega),M.and_low _ (by omega) (by omega)]
  have hSe : ((2 ^ s : Nat) : Int) = 2 ^ s:=cs;have hmy : ((y * 2 ^ s : Nat) : Int) = (y : Int) * ((2 ^ s : Nat) : Int):=Int.natCast_mul _ _;generalize hS : (2 ^ s : Nat) = S at *;generalize hu : h * S + l / 2 ^ (64 - s) = u at *;generalize hv : l * S % 18446744073709551616 = v at *;rw [hmy] at *
  have hyp : 0 < ((y : Int) * (S : Int)) / 4294967296:=by omega
  have em:=Int.emod_def (u : Int) (((y : Int) * (S : Int)) / 4294967296);have em0:=Int.emod_nonneg (u : Int) (show ((y : Int) * (S : Int)) / 4294967296≠0 by omega);have em1:=Int.emod_lt_of_pos (u : Int) hyp;have hun : (u : Int) / (((y : Int) * (S : Int)) / 4294967296)≤u:=Int.ediv_le_self _ (by omega)
  have hw : IntKind.u64.wrap (Int.tdiv (u : Int) (((y : Int) * (S : Int)) / 4294967296)) = (u : Int) / (((y : Int) * (S : Int)) / 4294967296):=by
   rw [M.tdivu (by omega)]
   exact M.wrapu_id (Int.ediv_nonneg (by omega) (by omega)) (by omega)
  have hw2 : IntKind.u64.wrap ((u : Int) - IntKind.u64.wrap ((u : Int) / (((y : Int) * (S : Int)) / 4294967296) * (((y : Int) * (S : Int)) / 4294967296))) = (u : Int) % (((y : Int) * (S : Int)) / 4294967296):=by
   rw [Int.mul_comm ((u : Int) / (((y : Int) * (S : Int)) / 4294967296))]
   generalize (u : Int) % (((y : Int) * (S : Int)) / 4294967296) = m at *;generalize ((y : Int) * (S : Int)) / 4294967296 * ((u : Int) / (((y : Int) * (S : Int)) / 4294967296)) = p at *;simp only [M.wrapu]
   omega
  rw [if_neg (by omega),hw,hw2]
  refine bits_Div64.digits hs63 hSe (by omega) (by omega) (by omega) ?_ (by omega) (by omega) (by omega) (by omega) ?_ k (by omega)
  ·omega
  ·have e1 : ((h : Int) * 18446744073709551616 + l) * (S : Int) = (h * S : Nat) * 18446744073709551616 + (l * S : Nat):=by
    rw [Int.add_mul,Int.natCast_mul,Int.natCast_mul,Int.mul_right_comm]
   rw [e1]
   omega
def bits_Div64_s.f (a0 : Int) (a1 : Int) (a2 : Int) : Option (Int × Int):=
 if 0≤a0∧a0 < a2∧a2 < 18446744073709551616∧0≤a1∧a1 < 18446744073709551616 then some ((a0 * 18446744073709551616 + a1) / a2,(a0 * 18446744073709551616 + a1) % a2) else none
theorem bits_Div64_s.calls (a0 : Int) (a1 : Int) (a2 : Int) (r1 : Int) (r2 : Int) (w : World) (h : bits_Div64_s.f a0 a1 a2 = some (r1,r2)) :
  Calls Try.prog 21 #[.int .u64 a0,.int .u64 a1,.int .u64 a2] w fun e w'=>e = .returned (.tuple #[.int .u64 r1,.int .u64 r2])∧Drawn0 w w':=by
 unfold bits_Div64_s.f at h
 split at h
 ·rename_i hr
  exact bits_Div64.calls 31 a0 a1 a2 r1 r2 w ((bits_Div64.tells a0 a1 a2 hr 31 (Nat.le_refl _)).trans h)
 ·cases h

-- NOT PRINTED: function 39 (slices_insertionSortCmpFunc_int)

-- NOT PRINTED: function 43 (slices_swapRangeCmpFunc_int)

-- NOT PRINTED: function 42 (slices_rotateCmpFunc_int)

-- NOT PRINTED: function 40 (slices_symMergeCmpFunc_int)

-- NOT PRINTED: function 33 (slices_stableCmpFunc_int)

/-! ### slices_SortStableFunc_int_int: function 22 -/
/-! What split.Shares sorts by,and the library's stable sort as a step of a walk. -/
section
open Go.Shelf Go.Lib Go.Sort
def Srt.cmp (r : List Int) (m : Nat) (x y : Fin (m + 1)) : Int:=if rd r y.val < rd r x.val then -1 else if rd r y.val > rd r x.val then 1 else 0
def Srt.Ok (r o : List Int) : Prop:=(∀ x ∈ o,0≤x∧x < (r.length : Int))∧0 < o.length∧o.length < 1152921504606846976∧r.length < 1152921504606846976
instance (r o : List Int) : Decidable (Srt.Ok r o):=inferInstanceAs (Decidable (_∧_∧_∧_))
def Srt.ok (r o : List Int) : Bool:=decide (Srt.Ok r o)
def Srt.fin (m : Nat) (x : Int) : Fin (m + 1):=⟨min x.toNat m,by omega⟩
/-- the places o by what is left there (r),greatest first,those that are alike as they stood -/
def Srt.srt (r o : List Int) : List Int:=((Stab.stable (ltOf (Srt.cmp r (r.length - 1))) (o.map (Srt.fin (r.length - 1))).toArray o.length).toList.map (fun x=>(x.val : Int)))
def Srt.enc (m : Nat) (x : Fin (m + 1)) : Value:=.int .i64 (x.val : Int)
section
set_option maxHeartbeats 4000000
set_option maxRecDepth 100000
theorem Srt.closure (gb : Nat) (A : Option Addr) (c : Nat) (r : List Int) (w : World) (hb : w.cell? ⟨gb,0,none⟩ = some (.slice A r.length c)) (hr : Kd.C (Kd.int .u64) w A r.length r) (x y : Nat) (hx : x < r.length) (hy : y < r.length) (hl : r.length < 1152921504606846976) :
  Calls Try.prog 23 #[.int .i64 x,.int .i64 y,.pointer (some ⟨gb,0,none⟩)] w fun e w'=>e = .returned (.int .i64 (if rd r y < rd r x then -1 else if rd r y > rd r x then 1 else 0))∧Drawn0 w w':=by
 have mixed : Try.prog.follows .mixedOrders = true:=by kernel_rfl
 have hu32:=Try.underlying32
 have hc : cmp_Compare_uint64.f (rd r y) (rd r x) = some (if rd r y < rd r x then -1 else if rd r y > rd r x then 1 else 0):=by
  unfold cmp_Compare_uint64.f cmp_isNaN_uint64.f
  simp
  split <;> simp_all
  split <;> simp_all
 have B:=ka hc;clear hc;obtain ⟨z,hz⟩ : ∃ z,z = (if rd r y < rd r x then (-1 : Int) else if rd r y > rd r x then 1 else 0):=⟨_,rfl⟩
 rw [← hz] at B ⊢
 clear hz;have pa : (0 : Int)≤(y : Int):=by omega
 have qa : (y : Int) < (r.length : Int):=by omega
 have pb : (0 : Int)≤(x : Int):=by omega
 have qb : (x : Int) < (r.length : Int):=by omega
 obtain ⟨ad,ea,ha⟩:=Kd.at_int hr (y : Int) pa qa;obtain ⟨ad2,eb,hb2⟩:=Kd.at_int hr (x : Int) pb qb;subst ea;injection eb with eb
 subst eb;simp only [Int.toNat_natCast] at ha hb2
 replace pa:=eq_true pa;replace qa:=eq_true qa;replace pb:=eq_true pb;replace qb:=eq_true qb;clear hr hx hy;obtain ⟨yv,hyv⟩ : ∃ v,v = rd r (y : Int):=⟨_,rfl⟩
 obtain ⟨xv,hxv⟩ : ∃ v,v = rd r (x : Int):=⟨_,rfl⟩
 rw [← hyv] at ha B
 rw [← hxv] at hb2 B
 clear hyv hxv;go_enter Try.func23,Try.ntmps23
 go_wp2
 go_quiet (first|(go_at_call 24;(with_reducible refine (cmp_Compare_uint64.calls yv xv z _ B.out).mono ?_);rintro e w' ⟨rfl,⟨nd,rfl⟩⟩;(try first|exact ⟨rfl,_,World.drewN_drewN _ _ _⟩|exact ⟨rfl,_,Eq.trans (World.drewN_drewN _ _ _) (congrArg (World.drewN _) (Nat.add_assoc _ _ _))⟩)))
 try go_wp2
 go_ret
 exact ⟨by first|rfl|(simp;done)|(simp [*];done),by repeat (first|exact Drawn0.refl _|apply Drawn0.step)⟩
end
section
set_option maxHeartbeats 4000000
theorem Srt.grown {α : Type} [Inhabited α] (enc : α→Value) (w : World) (g m : Nat) (dk : Array α) (os : Array Obj) : w.grownBy (sortWorld enc w g 0 m dk os) (some g):=by
 refine ⟨rfl,rfl,rfl,by simp [sortWorld],fun k hk hne=>?_⟩;unfold sortWorld
 rw [heap_grow_old _ _ (by simpa using hk)]
 have : g≠k:=fun e=>hne (by rw [e])
 simp [putRow,mapBlock,Sort.ahead,Array.getElem?_modify,this]
theorem Srt.put {α : Type} [Inhabited α] (enc : α→Value) (f : α→Int) (hf : ∀ x,enc x = .int .i64 (f x)) (w : World) (g : Nat) (d : Array α) : putRow enc w g 0 d = putRow (Value.int .i64) w g 0 (d.map f):=by
 unfold putRow
 congr 1
 funext c
 unfold putCells
 apply Array.ext
 ·simp
 ·intro k h1 h2;simp only [Array.getElem_mapIdx,Array.size_map]
  split
  ·rename_i hk
   rw [hf]
   congr 1
   rw [getElem!_pos d _ (by omega),getElem!_pos (d.map f) _ (by simp;omega)]
   simp
  ·rfl
theorem Srt.lays (g n cap : Nat) (o : List Int) (gb : Nat) (vr : Value) (r : List Int) (base : Nat) (ok okr : Nat→Prop) (w : World)
  (ho : Kd.R (Kd.int .i64) 3 w base ok (.slice (some ⟨g,0,none⟩) n cap) o) (hb : w.heap[gb]? = some (.cells #[vr] 32 (0,0))) (hr : Kd.R (Kd.int .u64) 42 w base okr vr r) (hp : 0 < r.length) (hl : r.length < 1152921504606846976) (size : Nat) :
  CmpLays1 Try.prog 23 #[.pointer (some ⟨gb,0,none⟩)] (Srt.enc (r.length - 1)) (Srt.cmp r (r.length - 1)) g 0 size w:=by
 intro mm os dk hs x y;have hg:=Srt.grown (Srt.enc (r.length - 1)) w g mm dk os;obtain ⟨A,c,hv⟩:=Kd.R_slice hr;have hne:=Kd.R_ne ho hb (by decide);have hR:=Kd.R_over' (v:=.slice (some ⟨g,0,none⟩) n cap) hr (Kd.R_typed ho) (by decide) hg;have hW : (sortWorld (Srt.enc (r.length - 1)) w g 0 mm dk os).heap[gb]? = some (.cells #[vr] 32 (0,0)):=(hg.block gb (blk_lt hb) hne).trans hb;subst hv;refine (Srt.closure gb A c r _ ((blk_cell hW 0).trans rfl) (Kd.R_reads' hR).2.2 x.val y.val (by omega) (by omega) hl).mono ?_;rintro e w' ⟨he,q,hq⟩;exact ⟨he,q,#[],by rw [hq,grow_empty]⟩
theorem stab_sortStable {α : Type} [Inhabited α] (enc : α→Value) (cf : α→α→Int) (g : Nat) (cb : Array Value) (blk off cap : Nat) (d0 d : Array α) (t w : World) (eg : ∀ args w,(callFunc g args).run Try.prog w = .ok (.enter g args) w) (hcmp : CmpLays1 Try.prog g cb enc cf blk off d0.size t) (R : Row1 enc t blk off d0) (hs : d0.size = d.size) (S : SW enc t blk off d w) (hsz : d0.size < 1152921504606846976) :
  Calls Try.prog 22 #[.slice (some ⟨blk,off,none⟩) d.size cap,.func (.func g) #[] cb] w fun e w'=>e = .returned (.tuple #[])∧SW enc t blk off (Stab.stable (ltOf cf) d d.size) w':=by
 have hu43:=Try.underlying43;have hC:=stab_stable enc cf g cb blk off cap d.size d0 d t w eg hcmp R hs S (Nat.le_refl _) hsz;have HC:=ka hC;clear hC hcmp S;go_enter Try.func22,Try.ntmps22
 go_wp2_with (go_at_call 33;with_reducible refine HC.out.mono ?_;rintro e w' ⟨rfl,T⟩)
 go_end0
 exact ⟨rfl,T⟩
theorem Srt.len (r o : List Int) : (Srt.srt r o).length = o.length:=by
 have h : ∀ (n : Nat) (f z : Nat) (d : Array (Fin (r.length - 1 + 1))) (lt),(Stab.merges lt n f z d).size = d.size:=by
  intro n f;induction f with
  | zero=>intro z d lt;rfl
  | succ f ih=>
   intro z d lt
   have hp : ∀ (k a : Nat) (d : Array (Fin (r.length - 1 + 1))),(Stab.pass lt n z k a d).2.size = d.size:=by
    intro k;induction k with
    | zero=>intro a d;rfl
    | succ k ihk=>
     intro a d;rw [Stab.pass]
     split
     ·rw [ihk];exact stab_size _ _ _ _ _ _
     ·rfl
   have hr : (Stab.round lt n z d).size = d.size:=by
    rw [Stab.round]
    (try simp only []);split
    ·rw [stab_size];exact hp _ _ _
    ·exact hp _ _ _
   rw [Stab.merges]
   split
   ·rw [ih,hr]
   ·rfl
 have h2 : ∀ (n f a : Nat) (d : Array (Fin (r.length - 1 + 1))) (lt),(Stab.firsts lt n f a d).2.size = d.size:=by
  intro n f;induction f with
  | zero=>intro a d lt;rfl
  | succ f ih=>
   intro a d lt;rw [Stab.firsts]
   split
   ·rw [ih];exact stab_ins_size _ _ _ _
   ·rfl
 unfold Srt.srt Stab.stable
 simp only [List.length_map,Array.length_toList,h,stab_ins_size,h2,List.size_toArray]
theorem Srt.calls (g n cap : Nat) (o : List Int) (gb : Nat) (vr : Value) (r : List Int) (base : Nat) (ok okr : Nat→Prop) (w : World)
  (ho : Kd.R (Kd.int .i64) 3 w base ok (.slice (some ⟨g,0,none⟩) n cap) o) (hb : w.heap[gb]? = some (.cells #[vr] 32 (0,0))) (hr : Kd.R (Kd.int .u64) 42 w base okr vr r) (h : Srt.Ok r o) :
  Calls Try.prog 22 #[.slice (some ⟨g,0,none⟩) n cap,.func (.func 23) #[] #[.pointer (some ⟨gb,0,none⟩)]] w fun e w'=>e = .returned (.tuple #[])∧Kd.R (Kd.int .i64) 3 w' base ok (.slice (some ⟨g,0,none⟩) n cap) (Srt.srt r o)∧w.grownBy w' (some g):=by
 obtain ⟨h1,h2,h3,h4⟩:=h
 have hp : 0 < r.length:=by
  cases o with
  | nil=>simp at h2
  | cons x o=>have:=h1 x (by simp);omega
 obtain rfl:=(Kd.R_reads' ho).1;have hown:=Kd.own_of_R ho;rcases hown.2 with ⟨he,_⟩|⟨g',cap',cur,hv,hbase,hcur,hc1,hc2,hc3,hc4⟩
 ·cases he
 cases hv
 rw [Nat.mul_one] at hc4
 obtain ⟨m,hm⟩ : ∃ m,m = r.length - 1:=⟨_,rfl⟩
 have hval : ∀ x ∈ o,((Srt.fin m x).val : Int) = x:=by
  intro x hx;have:=h1 x hx;simp only [Srt.fin]
  omega
 have R1 : Row1 (Srt.enc m) w g 0 (o.map (Srt.fin m)).toArray:=by
  refine ⟨fun _=>rfl,?_,blk_lt hcur⟩;intro j hj;have hj' : j < o.length:=by simpa using hj
  have h0:=holds_of_blockI hcur hc4 j (by simpa using hj');refine ⟨h0.1.trans ?_,h0.2⟩;rw [getElem!_pos _ j (by simpa using hj'),getElem!_pos _ j (by simpa using hj')]
  simp only [Srt.enc,List.getElem_toArray,List.getElem_map]
  rw [hval _ (List.getElem_mem hj')]
 have hL:=Srt.lays g o.length cap o gb vr r base ok okr w ho hb hr hp h4 o.length;rw [← hm] at hL
 have S0 : SW (Srt.enc m) w g 0 (o.map (Srt.fin m)).toArray w:=⟨0,#[],by unfold sortWorld;rw [grow_empty,Sort.ahead_zero,putRow_self _ _ _ _ _ R1.hH]⟩
 have hsz : (o.map (Srt.fin m)).toArray.size = o.length:=by simp
 have hC:=stab_sortStable (Srt.enc m) (Srt.cmp r m) 23 #[.pointer (some ⟨gb,0,none⟩)] g 0 cap _ _ w w (fun args w=>enters_ Try.func23 (by kernel_rfl) rfl args w) (by rw [hsz];exact hL) R1 rfl S0 (by rw [hsz];exact h3);rw [hsz] at hC
 refine hC.mono ?_;rintro e w' ⟨he,q,os,hw⟩;have hlen : (Srt.srt r o).length = o.length:=Srt.len r o
 have hput : w' = grow (putRow (Value.int .i64) (Sort.ahead w q) g 0 (Srt.srt r o).toArray) os:=by
  rw [hw]
  unfold sortWorld
  rw [Srt.put (Srt.enc m) (fun x=>(x.val : Int)) (fun _=>rfl)]
  congr 2
  subst hm;unfold Srt.srt
  generalize Stab.stable (ltOf (Srt.cmp r (r.length - 1))) (o.map (Srt.fin (r.length - 1))).toArray o.length = X;rw [← List.map_toArray,Array.toArray_toList]
 refine ⟨he,?_,hput ▸ grownBy_sortedI _⟩;have hrow:=ownsRow_sortedI (w:=w) (base:=base) (g:=g) (cap:=cap) (n:=q) (e:=3) (os:=os) (cur:=cur) (ss:=o) (ts:=Srt.srt r o) hlen hbase hcur hc1 hc2 hc3;rw [← hput] at hrow
 have hrow2 : w'.ownsRow base 3 1 (.slice (some ⟨g,0,none⟩) o.length cap) (Srt.srt r o).length (encs (Value.int .i64) (Srt.srt r o)):=by rw [hlen];exact hrow
 exact Kd.R_of_own hrow2 ho.1
end
end
section
open Go.Sort Go.Stab
/-- is place x ahead of place y: more is left there,or as much and it stands earlier -/
def Srt.T (r : List Int) (x y : Int) : Prop:=rd r x > rd r y∨(rd r x = rd r y∧x < y)
instance (r : List Int) (x y : Int) : Decidable (Srt.T r x y):=inferInstanceAs (Decidable (_∨_))
def Srt.upto (n : Nat) : List Int:=(List.range n).map (fun i : Nat=>(i : Int))
theorem Srt.ok_upto {r : List Int} (h : 0 < r.length) (h2 : r.length < 1152921504606846976) : Srt.Ok r (Srt.upto r.length):=by
 refine ⟨?_,by simp [Srt.upto];exact h,by simp [Srt.upto];exact h2,h2⟩;intro x hx;obtain ⟨i,hi,rfl⟩:=List.mem_map.mp hx;have:=List.mem_range.mp hi;omega
theorem Srt.spec {r : List Int} (h : 0 < r.length) (h2 : r.length < 1152921504606846976) :
  (Srt.srt r (Srt.upto r.length)).Perm (Srt.upto r.length)∧(Srt.srt r (Srt.upto r.length)).Pairwise (Srt.T r):=by
 have hfin : (Srt.upto r.length).map (Srt.fin (r.length - 1)) = (List.range r.length).map (fun i : Nat=>(⟨min i (r.length - 1),by omega⟩ : Fin (r.length - 1 + 1))):=by
  unfold Srt.upto
  rw [List.map_map]
  apply List.map_congr_left
  intro i hi;apply Fin.ext
  simp [Srt.fin]
 let T' : Fin (r.length - 1 + 1)→Fin (r.length - 1 + 1)→Prop:=fun a b=>Srt.T r a.val b.val
 have hT : ∀ x y z,T' x y→T' y z→T' x z:=by
  intro x y z h1 h2;simp only [T',Srt.T] at *
  omega
 obtain ⟨d,hd⟩ : ∃ d,d = ((Srt.upto r.length).map (Srt.fin (r.length - 1))).toArray:=⟨_,rfl⟩
 have hd2:=hd.trans (congrArg List.toArray hfin);have hsz : d.size = r.length:=by rw [hd2];simp
 have hget : ∀ i,i < r.length→(d[i]!).val = i:=by
  intro i hi;rw [getElem!_pos d i (by omega)]
  simp only [hd2,List.getElem_toArray,List.getElem_map,List.getElem_range]
  omega
 have hcross : ∀ x y,x < y→y < r.length→Cross (ltOf (Srt.cmp r (r.length - 1))) T' d[x]! d[y]!:=by
  intro x y hxy hy;have ex:=hget x (by omega);have ey:=hget y hy;unfold Cross
  simp only [ltOf,T',Srt.T,Srt.cmp,ex,ey]
  constructor
  ·intro hlt;have hlt:=of_decide_eq_true hlt;left
   split at hlt
   ·assumption
   ·split at hlt <;> omega
  ·intro hlt;have hlt:=of_decide_eq_false hlt;split at hlt
   ·omega
   ·omega
 have hs:=stable_spec hT r.length d (by omega) hcross;have hlen : (Srt.upto r.length).length = r.length:=by simp [Srt.upto]
 have hdef : Srt.srt r (Srt.upto r.length) = (Stab.stable (ltOf (Srt.cmp r (r.length - 1))) d r.length).toList.map (fun x=>(x.val : Int)):=by
  unfold Srt.srt
  rw [hd,hlen]
 rw [hdef]
 obtain ⟨⟨p1,p2,p3⟩,s⟩:=hs;obtain ⟨d',hd'⟩ : ∃ d',d' = Stab.stable (ltOf (Srt.cmp r (r.length - 1))) d r.length:=⟨_,rfl⟩
 rw [← hd'] at p1 p2 p3 s ⊢
 have ex : ∀ {α : Type} (a : Array α) (n : Nat),n = a.size→a.extract 0 n = a:=by
  intro α a n hn;subst hn;simp
 have e1:=ex d' r.length (by omega);have e2:=ex d r.length (by omega);rw [e1,e2] at p3
 constructor
 ·have p4:=p3.map (fun x=>(x.val : Int));refine p4.trans ?_
  have : d.toList.map (fun x=>(x.val : Int)) = Srt.upto r.length:=by
   rw [hd2]
   simp only [List.toList_toArray,List.map_map]
   unfold Srt.upto
   apply List.map_congr_left
   intro i hi;have:=List.mem_range.mp hi;simp
   omega
  rw [this]
 ·rw [List.pairwise_map,List.pairwise_iff_getElem]
  intro i j hi hj hij;have hi' : i < d'.size:=by simpa using hi
  have hj' : j < d'.size:=by simpa using hj
  have:=s i j (Nat.zero_le _) hij (by omega);rw [getElem!_pos d' i hi',getElem!_pos d' j hj'] at this
  simpa using this
end
theorem Srt.uniq {r : List Int} : ∀ {a b : List Int},a.Perm b→a.Pairwise (Srt.T r)→b.Pairwise (Srt.T r)→a = b
 | [],b,p,_,_=>(List.Perm.nil_eq p)
 | x :: a,[],p,_,_=>by have:=p.length_eq;simp at this
 | x :: a,y :: b,p,ha,hb=>by
  have ha':=List.pairwise_cons.mp ha;have hb':=List.pairwise_cons.mp hb
  have hxy : x = y:=by
   have h1 : x ∈ y :: b:=p.mem_iff.mp (by simp);have h2 : y ∈ x :: a:=p.mem_iff.mpr (by simp);rcases List.mem_cons.mp h1 with h|h
   ·exact h
   ·rcases List.mem_cons.mp h2 with h'|h'
    ·exact h'.symm
    ·have t1:=hb'.1 x h;have t2:=ha'.1 y h';unfold Srt.T at t1 t2
     omega
  subst hxy;rw [Srt.uniq (List.Perm.cons_inv p) ha'.2 hb'.2]
theorem Srt.is {r L : List Int} (h : 0 < r.length) (h2 : r.length < 1152921504606846976) (p : L.Perm (Srt.upto r.length)) (s : L.Pairwise (Srt.T r)) : Srt.srt r (Srt.upto r.length) = L:=
 Srt.uniq ((Srt.spec h h2).1.trans p.symm) (Srt.spec h h2).2 s

end Go.Proofs.Ytcpmfdagnchlbaa.P
