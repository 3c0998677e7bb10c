-- Written by a program of this session out of the translation of the seat: Lean functions and the proofs that the Go functions come to them.
import Derived.Test.YtghimjkoaldafaaPx0
import Derived.Test.YtghimjkoaldafaaPx7
import Derived.Test.YtghimjkoaldafaaPx8
import Derived.Test.YtghimjkoaldafaaPx9
import Derived.Test.YtghimjkoaldafaaPx11
import Derived.Test.YtghimjkoaldafaaPx12
namespace Go.Proofs.Ytghimjkoaldafaa.P
open Go.RowKit Go.Proofs.YtghimjkoaldafaaW.PrintWords Go.Proofs.YtghimjkoaldafaaW.PrintLast Go.Proofs.YtghimjkoaldafaaW.PrintMore
open Option renaming bind_some → aa
open Go.Proofs.Ytghimjkoaldafaa.P.U renaming num → ab, dig → af, val → ag
open Go.Proofs.Ytghimjkoaldafaa.P.M renaming abs → ad
open Go.Proofs.Ytghimjkoaldafaa.P.trivetref01_floor renaming l0 → ae, j1 → ah, f → ai, j2 → aj
attribute [local go_sem] max2_int min2_int max_two min_two max_three min_three max_four min_four   -- for this text's walks alone
set_option linter.unusedVariables false
set_option linter.unusedSimpArgs false
/-- a digit of a number -/
theorem Qu.dig_get : ∀ (j : Nat) (n : Int),0≤n→(af n).getD j 0 = n / 65536 ^ j % 65536
 | 0,n,h=>by
  by_cases h0 : n≤0
  ·rw [U.dig_low h0,show n = 0 by omega];simp
  ·rw [U.dig_pos (by omega),List.getD_cons_zero];simp
 | j + 1,n,h=>by
  by_cases h0 : n≤0
  ·rw [U.dig_low h0,show n = 0 by omega];simp
  ·rw [U.dig_pos (by omega),List.getD_cons_succ,Qu.dig_get j _ (by omega),U.pow_succ,Int.ediv_ediv_of_nonneg (by decide)]
theorem Qu.bit_nat (n j r : Nat) (hr : r < 16) : n / 65536 ^ j % 65536 / 2 ^ r % 2 = n / 2 ^ (16 * j + r) % 2:=by
 have e1 : (65536 : Nat) = 2 ^ 16:=by decide
 have h1 : (n / 65536 ^ j % 65536).testBit r = n.testBit (16 * j + r):=by
  rw [e1,← Nat.pow_mul,Nat.testBit_mod_two_pow,Nat.testBit_div_two_pow,decide_eq_true hr,Bool.true_and,Nat.add_comm]
 rw [Nat.testBit_eq_decide_div_mod_eq,Nat.testBit_eq_decide_div_mod_eq] at h1
 have:=decide_eq_decide.mp h1;omega
theorem Qu.bit (n : Int) (hn : 0≤n) (i : Nat) : (af n).getD (i / 16) 0 / 2 ^ (i % 16) % 2 = n / 2 ^ i % 2:=by
 obtain ⟨m,rfl⟩:=Int.eq_ofNat_of_zero_le hn;rw [Qu.dig_get _ _ hn]
 have h:=Qu.bit_nat m (i / 16) (i % 16) (by omega);rw [show 16 * (i / 16) + i % 16 = i by omega] at h
 have h2:=congrArg (Nat.cast : Nat→Int) h;simp only [Int.natCast_emod,Int.natCast_ediv,Int.natCast_pow] at h2
 exact h2
theorem Qu.half (n : Int) (i : Nat) (hn : 0≤n) : n / 2 ^ i = 2 * (n / 2 ^ (i + 1)) + n / 2 ^ i % 2:=by
 have : n / 2 ^ (i + 1) = n / 2 ^ i / 2:=by rw [Int.pow_succ,Int.ediv_ediv_of_nonneg (Int.le_of_lt (Int.pow_pos (by decide)))]
 omega
/-- a Qu.round: a Qu.bit more of the number -/
theorem Qu.round {a b c : Int} (hc : 0 < c) (hb : 0≤b∧b < 2) : (2 * a + b) / c = 2 * (a / c) + (if 2 * (a % c) + b ≥ c then 1 else 0)∧(2 * a + b) % c = 2 * (a % c) + b - (if 2 * (a % c) + b ≥ c then c else 0):=by
 have e:=Int.emod_def a c;have e0:=Int.emod_nonneg a (show c≠0 by omega);have e1:=Int.emod_lt_of_pos a hc;generalize a % c = r at *;generalize hq : a / c = q at *;rw [Int.mul_comm] at e
 split
 ·have d : (2 * a + b) / c = 2 * q + 1:=by
   apply M.ediv_of hc
   ·rw [Int.add_mul,Int.mul_assoc];omega
   ·rw [Int.add_mul,Int.add_mul,Int.mul_assoc];omega
  refine ⟨d,?_⟩;rw [Int.emod_def,d,Int.mul_comm c,Int.add_mul,Int.mul_assoc];omega
 ·have d : (2 * a + b) / c = 2 * q + 0:=by
   apply M.ediv_of hc
   ·rw [Int.add_mul,Int.mul_assoc];omega
   ·rw [Int.add_mul,Int.add_mul,Int.mul_assoc];omega
  refine ⟨d,?_⟩;rw [Int.emod_def,d,Int.mul_comm c,Int.add_mul,Int.mul_assoc];omega
theorem Qu.round_le {a b c : Int} (hc : 0 < c) (hb : 0≤b∧b < 2) : 2 * (a / c)≤(2 * a + b) / c:=by
 rw [(Qu.round hc hb).1]
 split <;> omega
theorem Qu.abs_neg {y : Int} (h : 0≤y) : ad (-y) = y:=by
 unfold ad
 split <;> omega
theorem Qu.abs_pos {y : Int} (h : 0≤y) : ad y = y:=by
 unfold ad
 rw [if_neg (by omega)]
theorem Qu.abs_div {x c : Int} (hc : 0 < c) : ad (x / c)≤ad x:=by
 by_cases h : x < 0
 ·have h1 : x≤x / c:=M.le_div hc (by
   have:=Int.mul_nonneg (show 0≤-x by omega) (show 0≤c - 1 by omega);rw [Int.mul_sub,Int.mul_one,Int.neg_mul] at this
   omega)
  have h2 : x / c < 0:=M.div_lt hc (by omega);unfold ad
  rw [if_pos h,if_pos h2]
  omega
 ·have h1 : 0≤x / c:=Int.ediv_nonneg (by omega) (by omega);have h2:=Int.ediv_le_self c (show 0≤x by omega);rw [Qu.abs_pos h1,Qu.abs_pos (by omega)]
  exact h2
theorem Qu.shr_of (a : Int) (r : Nat) (h : r≤64) : shr .u64 a (r : Int) = a / 2 ^ r:=by
 unfold shr
 rw [Int.toNat_natCast,show min r (IntKind.u64).bits = r from Nat.min_eq_left h]
theorem trivetref01_floor.later (k : Nat) (q D : List Int) (i : Nat) (c z : Int) (m : Bool) (hk : 6000≤k) (hc : 0 < c) (hc2 : c < 65536 ^ 16) (hi2 : i < 1000) (hz : 0≤z) (hz2 : z < 2 * c) (hq : U.Dg q) (hql : q.length≤40) (hv : ag q + ag q < 65536 ^ 16) :
  ∃ q',ah (k + 1) q (i : Int) D m (ab c).1 (ab c).2 (ab z).1 (ab z).2 (ab 2).1 (ab 2).2 = ae k q' ((i : Int) - 1) D m (ab c).1 (ab c).2 (ab (z - if z ≥ c then c else 0)).1 (ab (z - if z ≥ c then c else 0)).2 (ab 2).1 (ab 2).2∧U.Dg q'∧ag q' = 2 * ag q + (if z ≥ c then 1 else 0)∧q'.length≤40:=by
 have p16 : (65536 : Int) ^ 16 * 4 < 65536 ^ 32:=by decide
 have p32 : (65536 : Int) ^ 32 < 65536 ^ 64:=by decide
 have hv0:=U.val_nonneg hq;have habs : ∀ z : Int,0≤z→ad z = z:=fun z h=>by unfold ad;rw [if_neg (by omega)]
 have hneg : ad (-c) = c:=by unfold ad;rw [if_pos (by omega)];omega
 have ac:=habs c (by omega);have az:=habs z hz;obtain ⟨d,d1,d2,d3,d4⟩:=trivetref01_plus.num k q q hq hq (by omega) (by omega) (by omega);have hv2 : 0≤ag q + ag q:=by omega
 have hlen:=U.len_dig 16 (ag q + ag q) hv;have hn1 : (ab (ag q + ag q)).1 = af (ag q + ag q):=by unfold ab;rw [habs _ hv2]
 simp only [ah]
 rw [d1,aa,trivetref01_norm.num k d false (ag q + ag q) d2 (by omega) (by omega) (by rw [if_neg (by decide),d3]),aa,trivetref01_Cmp.num k z c (by omega) (by omega) (by omega),aa,M.w64_id (n:=(i : Int) - 1) (by omega) (by omega)]
 by_cases hge : z ≥ c
 ·have hcmp : (if z = c then (0 : Int) else if z < c then -1 else 1) ≥ 0:=by
   split
   ·decide
   ·rw [if_neg (by omega)];decide
  rw [if_pos hge,if_pos hge,if_pos hcmp,trivetref01_Neg.num k c (by omega) (by omega),aa,trivetref01_Add.num k z (-c) (by omega) (by omega) (by omega),aa]
  obtain ⟨e,e1,e2,e3,e4⟩:=trivetref01_plus.num k (af (ag q + ag q)) [1] (U.dig_dg _) (U.Dg.one (by decide)) (by omega) (by simp) (by simp;omega);rw [hn1,e1,aa,show z + -c = z - c by omega]
  refine ⟨e,rfl,e2,?_,?_⟩
  ·rw [e3,U.val_dig hv2,U.val_one];omega
  ·simp at e4;omega
 ·have hcmp : ¬ (if z = c then (0 : Int) else if z < c then -1 else 1) ≥ 0:=by rw [if_neg (by omega),if_pos (by omega)];decide
  rw [if_neg hge,if_neg hge,if_neg hcmp,hn1,Int.sub_zero]
  refine ⟨_,rfl,U.dig_dg _,?_,by omega⟩;rw [U.val_dig hv2];omega
theorem trivetref01_floor.early (k : Nat) (q : List Int) (i : Nat) (N c r b : Int) (m : Bool) (hk : 6000≤k) (hi : i / 16 < (af N).length) (hi2 : i < 1000) (hr0 : 0≤r) (hr1 : r < 65536 ^ 16) (hb : b = 0∨b = 1) (hbit : (af N).getD (i / 16) 0 / 2 ^ (i % 16) % 2 = b) :
  ae (k + 1) q (i : Int) (af N) m (ab c).1 (ab c).2 (ab r).1 (ab r).2 (ab 2).1 (ab 2).2 = ah k q (i : Int) (af N) m (ab c).1 (ab c).2 (ab (2 * r + b)).1 (ab (2 * r + b)).2 (ab 2).1 (ab 2).2:=by
 have p16 : (65536 : Int) ^ 16 * 4 < 65536 ^ 32:=by decide
 have p32 : (65536 : Int) ^ 32 < 65536 ^ 64:=by decide
 have p20 : (2 : Int) < 65536 ^ 16:=by decide
 have hg:=(U.dig_dg N).get (i / 16);have hrd : rd (af N) (((i / 16 : Nat)) : Int) = (af N).getD (i / 16) 0:=rfl;have habs : ∀ z : Int,0≤z→ad z = z:=fun z h=>by unfold ad;rw [if_neg (by omega)]
 have t1 : wrap64 (Int.tdiv (i : Int) 16) = ((i / 16 : Nat) : Int):=by rw [M.tdivu (by omega),M.w64_id (by omega) (by omega)];omega
 have t2 : Int.tmod (i : Int) 16 = ((i % 16 : Nat) : Int):=by rw [M.tmodu (by omega)];omega
 have hshr:=Qu.shr_of ((af N).getD (i / 16) 0) (i % 16) (Nat.le_trans (Nat.le_of_lt (Nat.mod_lt i (by decide))) (by decide))
 have hand : Go.bits .and .u64 ((af N).getD (i / 16) 0 / 2 ^ (i % 16)) 1 = b:=by
  have hs0 : 0≤(af N).getD (i / 16) 0 / 2 ^ (i % 16):=Int.ediv_nonneg hg.1 (Int.le_of_lt (Int.pow_pos (by decide)));have hs1 : (af N).getD (i / 16) 0 / 2 ^ (i % 16)≤(af N).getD (i / 16) 0:=Int.ediv_le_self _ hg.1;rw [M.and_one _ hs0 (Int.lt_of_le_of_lt hs1 (Int.lt_trans hg.2 (by decide))),hbit]
 clear hbit;have ar:=habs r hr0;have a2:=habs 2 (by decide);have ar2:=habs (r * 2) (by omega);have a1:=habs 1 (by decide);simp only [ae]
 rw [if_pos (show (i : Int) ≥ 0 by omega),trivetref01_Mul.num k r 2 (by omega) (by omega) (by omega),aa,t1,t2,if_pos (show (0 : Int)≤((i / 16 : Nat) : Int) by omega),if_pos (show ((i / 16 : Nat) : Int) < ((af N).length : Int) from Int.ofNat_lt.mpr hi),if_pos (show (0 : Int)≤((i % 16 : Nat) : Int) by omega),hrd,hshr,hand]
 rcases hb with rfl|rfl
 ·rw [if_neg (by decide),show r * 2 = 2 * r + 0 by omega]
 ·rw [if_pos rfl,trivetref01_Of.num k 1 (by decide) (by omega),aa,trivetref01_Add.num k (r * 2) 1 (by omega) (by omega) (by omega),aa,show r * 2 + 1 = 2 * r + 1 by omega]
theorem trivetref01_floor.step (k : Nat) (q : List Int) (i : Nat) (N c r : Int) (m : Bool) (hk : 6000≤k) (hN : 0≤N) (hN2 : N < 65536 ^ 16) (hc : 0 < c) (hc2 : c < 65536 ^ 16) (hi : i / 16 < (af N).length) (hi2 : i < 1000) (hr : r = N / 2 ^ (i + 1) % c) (hq : U.Dg q) (hqv : ag q = N / 2 ^ (i + 1) / c) (hql : q.length≤40) :
  ∃ q',ae (k + 2) q (i : Int) (af N) m (ab c).1 (ab c).2 (ab r).1 (ab r).2 (ab 2).1 (ab 2).2 = ae k q' ((i : Int) - 1) (af N) m (ab c).1 (ab c).2 (ab (N / 2 ^ i % c)).1 (ab (N / 2 ^ i % c)).2 (ab 2).1 (ab 2).2∧U.Dg q'∧ag q' = N / 2 ^ i / c∧q'.length≤40:=by
 have hb0:=Int.emod_nonneg (N / 2 ^ i) (show (2 : Int)≠0 by decide);have hb1:=Int.emod_lt_of_pos (N / 2 ^ i) (show (0 : Int) < 2 by decide);have hh:=Qu.half N i hN;have hbit:=Qu.bit N hN i;have hr0 : 0≤r:=by rw [hr];exact Int.emod_nonneg _ (by omega)
 have hr1 : r < c:=by rw [hr];exact Int.emod_lt_of_pos _ hc
 have hrnd:=Qu.round (a:=N / 2 ^ (i + 1)) (b:=N / 2 ^ i % 2) hc ⟨hb0,hb1⟩;have hle:=Qu.round_le (a:=N / 2 ^ (i + 1)) (b:=N / 2 ^ i % 2) hc ⟨hb0,hb1⟩;rw [← hh,← hqv] at hle
 rw [← hh,← hr,← hqv] at hrnd
 have hA0 : 0≤N / 2 ^ i:=Int.ediv_nonneg hN (Int.le_of_lt (Int.pow_pos (by decide)));have hquo : N / 2 ^ i / c≤N:=Int.le_trans (Int.ediv_le_self _ hA0) (Int.ediv_le_self _ hN);obtain ⟨b,hB⟩ : ∃ b,b = N / 2 ^ i % 2:=⟨_,rfl⟩
 rw [← hB] at hb0 hb1 hbit hrnd
 have hv : ag q + ag q < 65536 ^ 16:=Int.lt_of_le_of_lt (show ag q + ag q≤2 * ag q from Int.le_of_eq (Int.two_mul _).symm) (Int.lt_of_le_of_lt hle (Int.lt_of_le_of_lt hquo hN2));have hb : b = 0∨b = 1:=by clear hrnd hh hbit hqv hr hle hquo hB hA0;omega
 have hz : 0≤2 * r + b∧2 * r + b < 2 * c:=by clear hrnd hh hbit hqv hr hle hquo hB hA0 hv;omega
 have hr2 : r < 65536 ^ 16:=Int.lt_trans hr1 hc2;obtain ⟨q',l1,l2,l3,l4⟩:=trivetref01_floor.later k q (af N) i c (2 * r + b) m hk hc hc2 hi2 hz.1 hz.2 hq hql hv;refine ⟨q',?_,l2,by rw [l3,hrnd.1],l4⟩;rw [trivetref01_floor.early (k + 1) q i N c r b m (Nat.le_succ_of_le hk) hi hi2 hr0 hr2 hb hbit,l1,hrnd.2]
theorem trivetref01_floor.loop (s : Nat) : ∀ (k : Nat) (q : List Int) (N c : Int) (m : Bool),s * 2 + 6010≤k→0≤N→N < 65536 ^ 16→0 < c→c < 65536 ^ 16→s≤16 * (af N).length→U.Dg q→ag q = N / 2 ^ s / c→q.length≤40→
  ∃ q',ae k q ((s : Int) - 1) (af N) m (ab c).1 (ab c).2 (ab (N / 2 ^ s % c)).1 (ab (N / 2 ^ s % c)).2 (ab 2).1 (ab 2).2 = ae (k - 2 * s) q' (-1) (af N) m (ab c).1 (ab c).2 (ab (N % c)).1 (ab (N % c)).2 (ab 2).1 (ab 2).2∧U.Dg q'∧ag q' = N / c∧q'.length≤40:=by
 induction s with
 | zero=>
  intro k q N c m hk hN hN2 hc hc2 hs hq hqv hql;simp at hqv
  exact ⟨q,by simp,hq,hqv,hql⟩
 | succ s ih=>
  intro k q N c m hk hN hN2 hc hc2 hs hq hqv hql;obtain ⟨j,rfl⟩ : ∃ j,k = j + 2:=⟨k - 2,by omega⟩
  have hl16:=U.len_dig 16 N hN2;obtain ⟨q1,s1,s2,s3,s4⟩:=trivetref01_floor.step j q s N c _ m (by omega) hN hN2 hc hc2 (by omega) (by omega) rfl hq hqv hql;obtain ⟨q2,l1,l2,l3,l4⟩:=ih j q1 N c m (by omega) hN hN2 hc hc2 (by omega) s2 s3 s4;refine ⟨q2,?_,l2,l3,l4⟩;rw [show ((s + 1 : Nat) : Int) - 1 = (s : Int) by omega,s1,l1,show j + 2 - 2 * (s + 1) = j - 2 * s by omega]
theorem trivetref01_floor.num (k : Nat) (x c : Int) (hx : ad x < 65536 ^ 16) (hc : 0 < c) (hc2 : c < 65536 ^ 16) (hk : 7000≤k) : ai k (ab x).1 (ab x).2 (ab c).1 (ab c).2 = some (ab (x / c)):=by
 have p16 : (65536 : Int) ^ 16 * 4 < 65536 ^ 32:=by decide
 have p32 : (65536 : Int) ^ 32 < 65536 ^ 64:=by decide
 have hN:=U.abs_nonneg x;have hl16:=U.len_dig 16 _ hx;have hv:=U.val_lt (U.dig_dg (ad x));rw [U.val_dig hN] at hv
 have e65 : ∀ n : Nat,(65536 : Int) ^ n = 2 ^ (16 * n):=fun n=>by rw [Int.pow_mul];rfl
 rw [e65] at hv
 have hz : ad x / 2 ^ (16 * (af (ad x)).length) = 0:=Int.ediv_eq_zero_of_lt hN hv;obtain ⟨q,l1,l2,l3,l4⟩:=trivetref01_floor.loop (16 * (af (ad x)).length) k [] (ad x) c (decide (x < 0)) (by omega) hN hx hc hc2 (Nat.le_refl _) U.Dg.nil (by rw [hz];simp [ag]) (by simp);rw [hz] at l1
 have hr0:=Int.emod_nonneg (ad x) (show c≠0 by omega);have hr1:=Int.emod_lt_of_pos (ad x) hc;have hq0 : 0≤ad x / c:=Int.ediv_nonneg hN (by omega);have hq1 : ad x / c≤ad x:=Int.ediv_le_self _ hN;have n0 : ab (0 % c) = ([],false):=by simp [ab,ad,U.dig_zero]
 rw [n0] at l1
 show ai k (af (ad x)) (decide (x < 0)) (ab c).1 (ab c).2 = _
 unfold ai
 rw [trivetref01_Of.num k 2 (by unfold M.In;omega) (by omega),aa,M.w64_id (n:=((af (ad x)).length : Int) * 16) (by omega) (by omega),M.w64_id (n:=((af (ad x)).length : Int) * 16 - 1) (by omega) (by omega),show ((af (ad x)).length : Int) * 16 - 1 = ((16 * (af (ad x)).length : Nat) : Int) - 1 by omega,l1]
 obtain ⟨j,hj⟩ : ∃ j,k - 2 * (16 * (af (ad x)).length) = j + 2:=⟨k - 2 * (16 * (af (ad x)).length) - 2,by omega⟩
 rw [hj,show j + 2 = (j + 1) + 1 by omega]
 simp only [ae]
 rw [if_neg (by omega)]
 have a1 : ad x = if x < 0 then -x else x:=rfl;by_cases h : x < 0
 ·rw [if_pos h] at a1
  have hxe : x / c = (-(ad x)) / c:=by rw [a1,Int.neg_neg]
  have hnd:=M.neg_div (n:=ad x) hc;rw [decide_eq_true h,trivetref01_norm.num (j + 1) q true (-(ad x / c)) l2 (by omega) (by omega) (by rw [if_pos rfl,l3]),aa,if_pos rfl]
  simp only [aj]
  by_cases hz0 : ad x % c = 0
  ·rw [hz0,show ab 0 = ([],false) by simp [ab,ad,U.dig_zero]]
   rw [if_pos hz0] at hnd
   rw [hxe,hnd]
   simp
  ·have hne : af (ad x % c)≠[]:=fun e=>hz0 ((U.dig_nil_iff hr0).mp e)
   have hlen : ((ab (ad x % c)).1.length : Int) > 0:=by
    have e : (ab (ad x % c)).1 = af (ad x % c):=by unfold ab;show af (ad (ad x % c)) = _;rw [show ad (ad x % c) = ad x % c by unfold ad at *;rw [if_neg (by omega)]]
    rw [e]
    have:=List.length_pos_iff.mpr hne;omega
   rw [if_pos (decide_eq_true hlen),trivetref01_Of.num j (-1) (by unfold M.In;omega) (by omega),aa,trivetref01_Add.num j (-(ad x / c)) (-1) (by rw [Qu.abs_neg hq0];exact Int.lt_of_le_of_lt hq1 (Int.lt_trans hx (by decide))) (by decide) (by omega),aa]
   rw [if_neg hz0] at hnd
   rw [hxe,hnd]
   rfl
 ·rw [if_neg h] at a1
  rw [decide_eq_false h,trivetref01_norm.num (j + 1) q false (ad x / c) l2 (by omega) (by omega) (by rw [if_neg (by decide),l3]),aa,if_neg (by decide)]
  simp only [aj]
  rw [if_neg (by decide),a1]
end Go.Proofs.Ytghimjkoaldafaa.P
