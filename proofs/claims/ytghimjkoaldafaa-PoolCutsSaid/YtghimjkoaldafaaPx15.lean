-- Written by a program of this session out of the translation of the seat: Lean functions and the proofs that the Go functions come to them.
import Derived.Test.YtghimjkoaldafaaPx0
import Derived.Test.YtghimjkoaldafaaPx7
import Derived.Test.YtghimjkoaldafaaPx8
import Derived.Test.YtghimjkoaldafaaPx9
import Derived.Test.YtghimjkoaldafaaPx11
import Derived.Test.YtghimjkoaldafaaPx13
import Derived.Test.YtghimjkoaldafaaPx14
namespace Go.Proofs.Ytghimjkoaldafaa.P
open Go.RowKit Go.Proofs.YtghimjkoaldafaaW.PrintWords Go.Proofs.YtghimjkoaldafaaW.PrintLast Go.Proofs.YtghimjkoaldafaaW.PrintMore
open Option renaming bind_some → aa, bind_eq_some_iff → ae
open Go.Proofs.Ytghimjkoaldafaa.P.U renaming num → ab, abs_nonneg → aC, dig → aN
open Go.Proofs.Ytghimjkoaldafaa.P.M renaming abs → ad, quo → aB, In → aM
open Go.Proofs.Ytghimjkoaldafaa.P.trivetref01_Quotient renaming f → af, j3 → al, j2 → aq, j1 → au, calls → aG, j0 → aJ
open Option.some renaming injEq → ag
open Go.Proofs.Ytghimjkoaldafaa.P renaming errW_none → ah, errW_some → ai
open Go.Proofs.Ytghimjkoaldafaa.P.trivetref01_Of renaming f → aj, calls → an, num → ay
open Go.Proofs.YtghimjkoaldafaaW.PrintWords renaming below_step → ak, gate_callee → am, below_size → ap, results_list → aD, Aside0 → aI
open Go.Proofs.YtghimjkoaldafaaW.PrintWords.Kd renaming V_reads' → ao, V_lower → av, V_slice → aw, V_mono → ax, C_alloc → aE, C_drewN → aF, R_reads' → aH, at_int → aK, C_drew → aL, int → aO
open Go.IntKind renaming u64 → az
open Nat renaming le_refl → aA
set_option maxHeartbeats 8000000
set_option maxRecDepth 100000
attribute [local go_sem] max2_int min2_int max_two min_two max_three min_three max_four min_four   -- for this text's walks alone
set_option linter.unusedVariables false
set_option linter.unusedSimpArgs false
theorem Qu.num_len (z : Int) : ((ab z).1.length : Int) = 0 ↔ z = 0:=by
 have h:=U.dig_nil_iff (aC z);have e : ad z = 0 ↔ z = 0:=by unfold ad;split <;> omega
 rw [← e,← h]
 show ((aN (ad z)).length : Int) = 0 ↔ _
 rw [← List.length_eq_zero_iff]
 omega
theorem Qu.num_low (z : Int) (h : z≠0) : rd (ab z).1 0 = ad z % 65536:=by
 have e : ad z / 65536 ^ 0 = ad z:=by simp
 have:=Qu.dig_get 0 (ad z) (aC z);rw [e] at this
 exact this
theorem Qu.rest {x c : Int} : x + -(x / c * c) = x % c:=by
 rw [Int.emod_def,Int.mul_comm c];omega
theorem Qu.quo_pos {x c mode : Int} (hc : 0 < c) : aB x c mode = if x % c = 0∨mode = 1 then x / c else if mode = 2 then x / c + 1 else if 2 * (x % c) < c then x / c else if 2 * (x % c) > c then x / c + 1 else if (mode = 4∧(x / c) % 2 = 0)∨(mode = 3∧x < 0) then x / c else x / c + 1:=by
 unfold aB
 simp only [if_neg (show ¬ c < 0 by omega)]
theorem Qu.quo_neg {x c mode : Int} (hc : c < 0) : aB x c mode = aB (-x) (-c) mode:=by
 unfold aB
 simp only [if_pos hc,if_neg (show ¬ -c < 0 by omega)]
theorem trivetref01_Quotient.tie (k : Nat) (mode x c : Int) (hc : 0 < c) (hm : mode≠1) (hm2 : mode≠2) (hr : x % c≠0) (h1 : ¬ 2 * (x % c) < c) (h2 : ¬ 2 * (x % c) > c) :
  (if ((ab (x / c)).1.length : Int) = 0 then (if mode = 4 then (aq (k + 1) true (ab (x / c)).1 (ab (x / c)).2 (ab (x / c + 1)).1 (ab (x / c + 1)).2) else (if mode = 3 then (aq (k + 1) (ab x).2 (ab (x / c)).1 (ab (x / c)).2 (ab (x / c + 1)).1 (ab (x / c + 1)).2) else (aq (k + 1) false (ab (x / c)).1 (ab (x / c)).2 (ab (x / c + 1)).1 (ab (x / c + 1)).2))) else (if 0 < ((ab (x / c)).1.length : Int) then (if mode = 4 then (if (Int.tmod (rd (ab (x / c)).1 0) 2) = 0 then (al (k + 1) true (ab (x / c)).1 (ab (x / c)).2 (ab (x / c + 1)).1 (ab (x / c + 1)).2) else (if mode = 3 then (al (k + 1) (ab x).2 (ab (x / c)).1 (ab (x / c)).2 (ab (x / c + 1)).1 (ab (x / c + 1)).2) else (al (k + 1) false (ab (x / c)).1 (ab (x / c)).2 (ab (x / c + 1)).1 (ab (x / c + 1)).2))) else (if mode = 3 then (al (k + 1) (ab x).2 (ab (x / c)).1 (ab (x / c)).2 (ab (x / c + 1)).1 (ab (x / c + 1)).2) else (al (k + 1) false (ab (x / c)).1 (ab (x / c)).2 (ab (x / c + 1)).1 (ab (x / c + 1)).2))) else (none))) = some (ab (aB x c mode)):=by
 have hs : (ab x).2 = decide (x < 0):=rfl;have hl:=Qu.num_len (x / c);have hq:=Qu.quo_pos (x:=x) (mode:=mode) hc;rw [if_neg (show ¬ (x % c = 0∨mode = 1) by omega),if_neg hm2,if_neg h1,if_neg h2] at hq
 rw [hq,hs]
 simp only [aq,al]
 by_cases h0 : x / c = 0
 ·rw [if_pos (hl.mpr h0)]
  rw [h0]
  by_cases m4 : mode = 4
  ·rw [if_pos m4,if_pos (by decide),if_pos (.inl ⟨m4,by decide⟩)]
  ·rw [if_neg m4]
   by_cases m3 : mode = 3
   ·rw [if_pos m3]
    by_cases hx : x < 0
    ·rw [if_pos (decide_eq_true hx),if_pos (.inr ⟨m3,hx⟩)]
    ·rw [if_neg (by simpa using hx),if_neg (by omega)]
   ·rw [if_neg m3,if_neg (by decide),if_neg (by omega)]
 ·have hpos : 0 < ((ab (x / c)).1.length : Int):=by
   have : ¬ ((ab (x / c)).1.length : Int) = 0:=fun h=>h0 (hl.mp h)
   omega
  rw [if_neg (fun h=>h0 (hl.mp h)),if_pos hpos]
  have hev : (Int.tmod (rd (ab (x / c)).1 0) 2) = 0 ↔ (x / c) % 2 = 0:=by
   rw [Qu.num_low _ h0]
   have a0:=aC (x / c);rw [M.tmodu (by omega)]
   unfold ad
   split <;> omega
  by_cases m4 : mode = 4
  ·rw [if_pos m4]
   by_cases he : (x / c) % 2 = 0
   ·rw [if_pos (hev.mpr he),if_pos (by decide),if_pos (.inl ⟨m4,he⟩)]
   ·rw [if_neg (fun h=>he (hev.mp h)),if_neg (show ¬ mode = 3 by omega),if_neg (by decide),if_neg (by omega)]
  ·rw [if_neg m4]
   by_cases m3 : mode = 3
   ·rw [if_pos m3]
    by_cases hx : x < 0
    ·rw [if_pos (decide_eq_true hx),if_pos (.inr ⟨m3,hx⟩)]
    ·rw [if_neg (by simpa using hx),if_neg (by omega)]
   ·rw [if_neg m3,if_neg (by decide),if_neg (by omega)]
theorem trivetref01_Quotient.later (k : Nat) (mode x c : Int) (hx : ad x < 65536 ^ 15) (hc : 0 < c) (hc2 : c < 65536 ^ 15) (hk : 400≤k) (hm : mode≠1) (hr : x % c≠0) :
  au (k + 2) mode false (ab x).1 (ab x).2 (ab c).1 (ab c).2 (ab (x / c)).1 (ab (x / c)).2 (ab (x % c)).1 (ab (x % c)).2 = some (ab (aB x c mode)):=by
 have p16 : (65536 : Int) ^ 15 * 4 < 65536 ^ 32:=by decide
 have p32 : (65536 : Int) ^ 32 * 4 < 65536 ^ 64:=by decide
 have hr0:=Int.emod_nonneg x (show c≠0 by omega);have hr1:=Int.emod_lt_of_pos x hc;have hab:=Qu.abs_div (x:=x) hc;have ar:=Qu.abs_pos hr0;have ac:=Qu.abs_pos (Int.le_of_lt hc);have a1 : ad 1 = 1:=rfl;have hq:=Qu.quo_pos (x:=x) (mode:=mode) hc;rw [if_neg (show ¬ (x % c = 0∨mode = 1) by omega)] at hq
 rw [show k + 2 = (k + 1) + 1 by omega]
 simp only [au]
 rw [if_neg (by decide),ay (k + 1) 1 (by decide) (by omega),aa,trivetref01_Add.num (k + 1) (x / c) 1 (by omega) (by omega) (by omega),aa]
 by_cases m2 : mode = 2
 ·rw [if_pos m2] at hq ⊢
  rw [hq]
 ·rw [if_neg m2] at hq ⊢
  have arr : ad (x % c + x % c) = x % c + x % c:=Qu.abs_pos (by omega);rw [trivetref01_Add.num (k + 1) (x % c) (x % c) (by omega) (by omega) (by omega),aa,trivetref01_Cmp.num (k + 1) (x % c + x % c) c (by omega) (by omega) (by omega),aa]
  by_cases h1 : 2 * (x % c) < c
  ·rw [if_pos h1] at hq
   rw [if_neg (show ¬ x % c + x % c = c by omega),if_pos (show x % c + x % c < c by omega),if_pos (by decide),hq]
  ·rw [if_neg h1] at hq
   by_cases h2 : 2 * (x % c) > c
   ·rw [if_pos h2] at hq
    rw [if_neg (show ¬ x % c + x % c = c by omega),if_neg (show ¬ x % c + x % c < c by omega),if_neg (by decide),if_pos (by decide),hq]
   ·rw [if_pos (show x % c + x % c = c by omega),if_neg (by decide),if_neg (by decide)]
    exact trivetref01_Quotient.tie k mode x c hc hm m2 hr h1 h2
theorem trivetref01_Quotient.pos (k : Nat) (mode x c : Int) (hx : ad x < 65536 ^ 15) (hc : 0 < c) (hc2 : c < 65536 ^ 15) (hk : 7500≤k) :
  aJ k mode (ab x).1 (ab x).2 (ab c).1 (ab c).2 = some (ab (aB x c mode)):=by
 have p16 : (65536 : Int) ^ 15 * 4 < 65536 ^ 16:=by decide
 have p20 : (65536 : Int) ^ 16 * 4 < 65536 ^ 32:=by decide
 have p32 : (65536 : Int) ^ 32 * 4 < 65536 ^ 64:=by decide
 have hr0:=Int.emod_nonneg x (show c≠0 by omega);have hr1:=Int.emod_lt_of_pos x hc;have hab:=Qu.abs_div (x:=x) hc;have ac:=Qu.abs_pos (Int.le_of_lt hc);have hrest:=Qu.rest (x:=x) (c:=c)
 have hp : ad (x / c * c) < 65536 ^ 64:=by
  have : x / c * c = x - x % c:=by omega
  rw [this]
  unfold ad at hx ⊢
  split at hx <;> split <;> omega
 have hpn : ad (-(x / c * c)) < 65536 ^ 64:=by
  unfold ad at hp ⊢
  split at hp <;> split <;> omega
 obtain ⟨j,rfl⟩ : ∃ j,k = (j + 2) + 1:=⟨k - 3,by omega⟩
 simp only [aJ]
 rw [trivetref01_floor.num (j + 2) x c (by omega) hc (by omega) (by omega),aa,trivetref01_Mul.num (j + 2) (x / c) c (by omega) (by omega) (by omega),aa,trivetref01_Neg.num (j + 2) (x / c * c) hp (by omega),aa,trivetref01_Add.num (j + 2) x (-(x / c * c)) (by omega) hpn (by omega),aa,hrest]
 have hl:=Qu.num_len (x % c);have hq:=Qu.quo_pos (x:=x) (mode:=mode) hc;by_cases h0 : x % c = 0
 ·rw [if_pos (.inl h0)] at hq
  rw [if_pos (hl.mpr h0),hq]
  simp only [au]
  rw [if_pos trivial]
 ·rw [if_neg (fun h=>h0 (hl.mp h))]
  by_cases m1 : mode = 1
  ·rw [if_pos (.inr m1)] at hq
   rw [hq,show (mode == 1) = true from beq_iff_eq.mpr m1]
   simp only [au]
   rw [if_pos trivial]
  ·rw [show (mode == 1) = false from beq_eq_false_iff_ne.mpr m1]
   exact trivetref01_Quotient.later j mode x c hx hc hc2 (by omega) m1 h0
theorem trivetref01_Quotient.num (k : Nat) (x c mode : Int) (hx : ad x < 65536 ^ 15) (hc : c≠0) (hc2 : ad c < 65536 ^ 15) (hk : 7500≤k) :
  af k (ab x).1 (ab x).2 (ab c).1 (ab c).2 mode = some (ab (aB x c mode)):=by
 have p32 : (65536 : Int) ^ 15 * 4 < 65536 ^ 64:=by decide
 have hs : (ab c).2 = decide (c < 0):=rfl;unfold af
 by_cases h : c < 0
 ·have e : ad c = -c:=by unfold ad;rw [if_pos h]
  have ex : ad (-x) = ad x:=by unfold ad;split <;> split <;> omega
  rw [if_pos (by rw [hs];exact decide_eq_true h),trivetref01_Neg.num k x (by omega) (by omega),aa,trivetref01_Neg.num k c (by omega) (by omega),aa,Qu.quo_neg h]
  exact trivetref01_Quotient.pos k mode (-x) (-c) (by omega) (by omega) (by omega) hk
 ·have e : ad c = c:=Qu.abs_pos (by omega);rw [if_neg (by rw [hs];simpa using h)]
  exact trivetref01_Quotient.pos k mode x c hx (by omega) (by omega) hk
def trivetref01_To.l0 : Nat→Int→Int→List Int→Bool→Option (Int × Bool)
 | 0,_,_,_,_=>none
 | k + 1,x4,x5,x683000,x683001=>if x5 ≥ 0 then (if 0≤x5 then (if x5 < (x683000.length : Int) then (trivetref01_To.l0 k (az.wrap ((az.wrap (x4 * 65536)) + (rd x683000 x5))) (wrap64 (x5 - 1)) x683000 x683001) else (none)) else (none)) else (if x683001 = true then (some (wrap64 (az.wrap ((Go.bits .xor .u64 18446744073709551615 x4) + 1)),decide (x4≤9223372036854775808))) else (some (wrap64 (x4),decide (x4 < 9223372036854775808))))
def trivetref01_To.f (k : Nat) (l0_0 : List Int) (a0_1 : Bool) : Option (Int × Bool):=if (l0_0.length : Int) > 4 then (some (0,false)) else (trivetref01_To.l0 k 0 (wrap64 ((l0_0.length : Int) - 1)) l0_0 a0_1)
theorem trivetref01_To.calls (k : Nat) (A0_0 : Option Addr) (c0_0 : Nat) (l0_0 : List Int) (a0_1 : Bool) (r1 : Int) (r2 : Bool) (w : World) (hr0_0 : Kd.C (aO .u64) w A0_0 l0_0.length l0_0) (hc0_0 : l0_0.length≤c0_0) (h : trivetref01_To.f k l0_0 a0_1 = some (r1,r2)) :
  Calls Try.prog 27 #[.agg #[.slice A0_0 l0_0.length c0_0,.bool a0_1]] w fun e w'=>e = .returned (.tuple #[.int .i64 r1,.bool r2])∧Below w.heap.size w w':=by
 have hu51:=Try.underlying51;have HR0_0:=ka hr0_0;have HC0_0:=ka hc0_0;clear hr0_0 hc0_0;have HB:=ka (Below.refl w.heap.size w);have H : (if (l0_0.length : Int) > 4 then (some (0,false)) else (trivetref01_To.l0 k 0 (wrap64 ((l0_0.length : Int) - 1)) l0_0 a0_1)) = some (r1,r2):=h;clear h;by_cases c2 : (l0_0.length : Int) > 4
 ·rw [if_pos c2] at H
  have c2b0 : decide (4 < (l0_0.length : Int)) = true:=decide_eq_true c2;have c2b1 : decide (4 < l0_0.length) = true:=decide_eq_true (by omega);clear c2;simp only [ag,Prod.mk.injEq] at H
  obtain ⟨rfl,rfl⟩:=H;go_enter Try.func27,Try.ntmps27
  go_wp2_with (first|((with_reducible refine gate_dst (N:=1) rfl ?_);refine kx (N:=1) (cs:=#[.slice A0_0 l0_0.length c0_0,.bool a0_1]) (t:=51) ?_;intro a5 hg w3 hbox hb;have a9:=ka (ak (kw HB.out) hb);have b0:=ka (hbox);have a6:=ka ((by rw [hg];exact (ap (kw HB.out)) : w.heap.size≤a5));have b1:=a6;clear HB;have HB:=a9;have B:=b0;have c3:=a6;have O:=b1;clear a9 b0 a6 b1;clear hb hbox hg;have d4:=blkAll2 B.out))
  go_ret2
  exact ⟨by first|rfl|(simp [ah,ai] <;> rfl)|(simp [*,ah,ai] <;> rfl),by repeat (first|(with_reducible first|exact HB.out|apply kc1|apply kc2|apply kc3|refine kc4 ?_ O.out)|exact HB.out)⟩
 ·rw [if_neg c2] at H
  have c2b0 : decide (4 < (l0_0.length : Int)) = false:=decide_eq_false c2;have c2b1 : decide (4 < l0_0.length) = false:=decide_eq_false (by omega);clear c2;have H':=ka H;clear H;go_enter Try.func27,Try.ntmps27
  go_wp2_with (first|((with_reducible refine gate_dst (N:=1) rfl ?_);refine kx (N:=1) (cs:=#[.slice A0_0 l0_0.length c0_0,.bool a0_1]) (t:=51) ?_;intro a5 hg w5 hbox hb;have a9:=ka (ak (kw HB.out) hb);have b0:=ka (hbox);have a6:=ka ((by rw [hg];exact (ap (kw HB.out)) : w.heap.size≤a5));have b1:=a6;clear HB;have HB:=a9;have B:=b0;have c3:=a6;have O:=b1;clear a9 b0 a6 b1;clear hb hbox hg;have d5:=blkAll2 B.out))
  (try simp only [Act.put,List.setIfInBounds_toArray,List.set_cons_zero,List.set_cons_succ]);go_loopg [4,5] k (fun kq v4 v5 w'=>∃ (x4_1 : Int) (x5_1 : Int),v4 = .int .u64 x4_1∧v5 = .int .i64 x5_1∧aI (trivetref01_To.l0 kq x4_1 x5_1 l0_0 a0_1 = some (r1,r2))∧aI (kq≤k)∧aI (w'.heap[a5]? = some (.cells #[(.slice A0_0 l0_0.length c0_0),.bool a0_1] 51 (0,0)))∧aI (Below w.heap.size w w'))
  case atStart=>exact ⟨(0),(wrap64 ((l0_0.length : Int) - 1)),(by first|rfl|(simp;done)|(simp [*];done)),(by first|rfl|(simp;done)|(simp [*];done)),H',⟨aA _⟩,⟨by (with_reducible repeat (first|apply kb1|apply kb2|apply kb3));exact B.out⟩,⟨by repeat (first|(with_reducible first|exact HB.out|apply kc1|apply kc2|apply kc3|refine kc4 ?_ O.out)|exact HB.out)⟩⟩
  case round=>
   clear H';try clear c2
   try clear c2b0
   try clear c2b1
   try clear d5
   obtain ⟨x4_1,x5_1,rfl,rfl,HA,HK1,B,HB⟩:=hrel;cases gk with
   | zero=>exact absurd HA.out (by simp [trivetref01_To.l0])
   | succ k1=>
    have H:=HA.out;clear HA;simp only [trivetref01_To.l0] at H
    by_cases c7 : x5_1 ≥ 0
    ·rw [if_pos c7] at H
     have c7b0 : decide (0≤x5_1) = true:=decide_eq_true c7;clear c7;by_cases c8 : 0≤x5_1
     ·rw [if_pos c8] at H
      have c8b0 : decide (0≤x5_1) = true:=decide_eq_true c8;clear c8;by_cases c9 : x5_1 < (l0_0.length : Int)
      ·rw [if_pos c9] at H
       have c9b0 : decide (x5_1 < (l0_0.length : Int)) = true:=decide_eq_true c9;clear c9;have H':=ka H;clear H;have j4:=blkAll2 B.out;have p683 : 0≤(x5_1 : Int):=of_decide_eq_true (by first|(with_reducible assumption)|assumption);have q683 : x5_1 < (l0_0.length : Int):=of_decide_eq_true (by first|(with_reducible assumption)|assumption);obtain ⟨ad683,e683,hx683_0⟩:=aK HR0_0.out x5_1 p683 q683;cases e683
       replace hx683_0:=(HB.out.cell (World.block_lt_of_cell? w _ hx683_0)).trans hx683_0;replace p683:=eq_true p683;replace q683:=eq_true q683;go_wp2
       go_roundg k1
       case measure=>have:=HK1.out;omega
       case rel=>exact ⟨(az.wrap ((az.wrap (x4_1 * 65536)) + (rd l0_0 x5_1))),(wrap64 (x5_1 - 1)),(by first|rfl|(simp;done)|(simp [*];done)),(by first|rfl|(simp;done)|(simp [*];done)),H',⟨by have:=HK1.out;omega⟩,⟨by (with_reducible repeat (first|apply kb1|apply kb2|apply kb3));exact B.out⟩,⟨by repeat (first|(with_reducible first|exact HB.out|apply kc1|apply kc2|apply kc3|refine kc4 ?_ O.out)|exact HB.out)⟩⟩
      ·rw [if_neg c9] at H
       exact absurd H (by simp)
     ·rw [if_neg c8] at H
      exact absurd H (by simp)
    ·rw [if_neg c7] at H
     have c7b0 : decide (0≤x5_1) = false:=decide_eq_false c7;clear c7;by_cases c11 : a0_1 = true
     ·subst c11;have H1 : (some (wrap64 (az.wrap ((Go.bits .xor .u64 18446744073709551615 x4_1) + 1)),decide (x4_1≤9223372036854775808))) = some (r1,r2):=by rw [if_pos rfl] at H;exact H
      clear H;have H:=H1;clear H1;simp only [ag,Prod.mk.injEq] at H
      obtain ⟨rfl,rfl⟩:=H;have j5:=blkAll2 B.out;go_wp2
      go_ret2
      exact ⟨by first|rfl|(simp [ah,ai] <;> rfl)|(simp [*,ah,ai] <;> rfl),by repeat (first|(with_reducible first|exact HB.out|apply kc1|apply kc2|apply kc3|refine kc4 ?_ O.out)|exact HB.out)⟩
     ·replace c11:=Bool.eq_false_iff.mpr c11;subst c11;have H1 : (some (wrap64 (x4_1),decide (x4_1 < 9223372036854775808))) = some (r1,r2):=by rw [if_neg (show ¬ (false = true) by decide)] at H;exact H
      clear H;have H:=H1;clear H1;simp only [ag,Prod.mk.injEq] at H
      obtain ⟨rfl,rfl⟩:=H;have j6:=blkAll2 B.out;go_wp2
      go_ret2
      exact ⟨by first|rfl|(simp [ah,ai] <;> rfl)|(simp [*,ah,ai] <;> rfl),by repeat (first|(with_reducible first|exact HB.out|apply kc1|apply kc2|apply kc3|refine kc4 ?_ O.out)|exact HB.out)⟩
theorem trivetref01_To.loop (i : Nat) : ∀ (k : Nat) (d : List Int) (m : Bool),U.Dg d→d.length≤4→i≤d.length→i < k→trivetref01_To.l0 k (U.val (d.drop i)) ((i : Int) - 1) d m = trivetref01_To.l0 (k - i) (U.val d) (-1) d m:=by
 induction i with
 | zero=>intro k d m hd h4 hi hk;rfl
 | succ i ih=>
  intro k d m hd h4 hi hk;obtain ⟨j,rfl⟩ : ∃ j,k = j + 1:=⟨k - 1,by omega⟩
  have hv : U.val (d.drop (i + 1)) < 281474976710656:=by
   have:=U.val_lt (d:=d.drop (i + 1)) (fun x hx=>hd x (List.mem_of_mem_drop hx));have hl : (d.drop (i + 1)).length≤3:=by simp;omega
   have : (65536 : Int) ^ (d.drop (i + 1)).length≤65536 ^ 3:=U.pow_le hl;have e3 : (65536 : Int) ^ 3 = 281474976710656:=by decide
   omega
  have hv0:=U.val_nonneg (d:=d.drop (i + 1)) (fun x hx=>hd x (List.mem_of_mem_drop hx));have hg:=hd.get i;have hs:=U.drop_step d i;have hr : rd d ((i + 1 : Nat) - 1 : Int) = d.getD i 0:=by unfold rd;congr 1;omega
  generalize hV : U.val (d.drop (i + 1)) = v at *;generalize hG : d.getD i 0 = g at *
  have key : trivetref01_To.l0 (j + 1) v ((i + 1 : Nat) - 1 : Int) d m = trivetref01_To.l0 j (U.val (d.drop i)) ((i : Int) - 1) d m:=by
   simp only [trivetref01_To.l0]
   rw [if_pos (show ((i + 1 : Nat) - 1 : Int) ≥ 0 by omega),if_pos (show 0≤((i + 1 : Nat) - 1 : Int) by omega),if_pos (show ((i + 1 : Nat) - 1 : Int) < (d.length : Int) by omega),hr,M.wrapu_id (n:=v * 65536) (by omega) (by omega),M.wrapu_id (n:=v * 65536 + g) (by omega) (by omega),M.w64_id (by omega) (by omega),hs]
   congr 1 <;> omega
  rw [key,ih j d m hd h4 (by omega) (by omega)]
  congr 1
  omega
theorem trivetref01_To.num (k : Nat) (z : Int) (hk : 12≤k) (hz : ad z < 65536 ^ 64) : ∃ v,trivetref01_To.f k (ab z).1 (ab z).2 = some (v,decide (aM z))∧(aM z→v = z):=by
 have a0:=aC z;have e4 : (65536 : Int) ^ 4 = 18446744073709551616:=by decide
 have hd:=U.dig_dg (ad z);have hv:=U.val_dig a0;unfold ab trivetref01_To.f
 have a1 : ad z = z∧0≤z∨ad z = -z∧z < 0:=by unfold ad;split <;> omega
 by_cases h : (((aN (ad z)).length : Nat) : Int) > 4
 ·rw [if_pos h]
  have : ¬ ad z < 65536 ^ 4:=fun g=>by have:=U.len_dig 4 _ g;omega
  refine ⟨0,?_,?_⟩
  ·congr 2
   rw [decide_eq_false]
   unfold aM;omega
  ·unfold aM;omega
 ·rw [if_neg h]
  have hl : (aN (ad z)).length≤4:=by omega
  have hlt:=U.val_lt hd;rw [hv] at hlt
  have : (65536 : Int) ^ (aN (ad z)).length≤65536 ^ 4:=U.pow_le hl;have key:=trivetref01_To.loop (aN (ad z)).length k (aN (ad z)) (decide (z < 0)) hd hl (aA _) (by omega);rw [List.drop_length,hv] at key
  have hw : wrap64 (((aN (ad z)).length : Int) - 1) = ((aN (ad z)).length : Int) - 1:=M.w64_id (by omega) (by omega);rw [hw]
  simp only [U.val] at key
  rw [key]
  obtain ⟨j,hj⟩ : ∃ j,k - (aN (ad z)).length = j + 1:=⟨k - (aN (ad z)).length - 1,by omega⟩
  rw [hj]
  simp only [trivetref01_To.l0]
  rw [if_neg (by decide)]
  by_cases hz0 : z < 0
  ·rw [if_pos (decide_eq_true hz0)]
   refine ⟨_,congrArg some (Prod.ext rfl (decide_eq_decide.mpr (by unfold aM;omega))),?_⟩;intro hin;unfold aM at hin
   rw [M.xor_all _ (by omega) (by omega),M.wrapu]
   unfold wrap64
   omega
  ·rw [if_neg (by simpa using hz0)]
   refine ⟨_,congrArg some (Prod.ext rfl (decide_eq_decide.mpr (by unfold aM;omega))),?_⟩;intro hin;unfold aM at hin
   rw [M.w64_id (by omega) (by omega)]
   omega
def trivetref01_MulDiv.f (k : Nat) (a0 : Int) (a1 : Int) (a2 : Int) (a3 : Int) : Option (Int × Bool):=(aj k a0).bind fun Y=>((aj k a1).bind fun F=>((trivetref01_Mul.f k Y.1 Y.2 F.1 F.2).bind fun y=>((aj k a2).bind fun s=>((af k y.1 y.2 s.1 s.2 a3).bind fun q=>((trivetref01_To.f k q.1 q.2).bind fun p=>(if p.2 = true then (some (p.1,true)) else (some (0,false))))))))
theorem trivetref01_MulDiv.calls (k : Nat) (a0 : Int) (a1 : Int) (a2 : Int) (a3 : Int) (r1 : Int) (r2 : Bool) (w : World) (h : trivetref01_MulDiv.f k a0 a1 a2 a3 = some (r1,r2)) :
  Calls Try.prog 22 #[.int .i64 a0,.int .i64 a1,.int .i64 a2,.int .i64 a3] w fun e w'=>e = .returned (.tuple #[.int .i64 r1,.bool r2])∧Below w.heap.size w w':=by
 have HB:=ka (Below.refl w.heap.size w);have H : ((aj k a0).bind fun Y=>((aj k a1).bind fun F=>((trivetref01_Mul.f k Y.1 Y.2 F.1 F.2).bind fun y=>((aj k a2).bind fun s=>((af k y.1 y.2 s.1 s.2 a3).bind fun q=>((trivetref01_To.f k q.1 q.2).bind fun p=>(if p.2 = true then (some (p.1,true)) else (some (0,false))))))))) = some (r1,r2):=h;clear h;replace H:=ae.mp H;obtain ⟨⟨I,J⟩,c5,H⟩:=H;replace H : ((aj k a1).bind fun F=>((trivetref01_Mul.f k I J F.1 F.2).bind fun y=>((aj k a2).bind fun s=>((af k y.1 y.2 s.1 s.2 a3).bind fun q=>((trivetref01_To.f k q.1 q.2).bind fun p=>(if p.2 = true then (some (p.1,true)) else (some (0,false)))))))) = some (r1,r2):=H;have A5:=ka c5;clear c5;replace H:=ae.mp H;obtain ⟨⟨Q,S⟩,c6,H⟩:=H;replace H : ((trivetref01_Mul.f k I J Q S).bind fun y=>((aj k a2).bind fun s=>((af k y.1 y.2 s.1 s.2 a3).bind fun q=>((trivetref01_To.f k q.1 q.2).bind fun p=>(if p.2 = true then (some (p.1,true)) else (some (0,false))))))) = some (r1,r2):=H;have A6:=ka c6;clear c6;replace H:=ae.mp H;obtain ⟨⟨K,L⟩,d0,H⟩:=H;replace H : ((aj k a2).bind fun s=>((af k K L s.1 s.2 a3).bind fun q=>((trivetref01_To.f k q.1 q.2).bind fun p=>(if p.2 = true then (some (p.1,true)) else (some (0,false)))))) = some (r1,r2):=H;have A7:=ka d0;clear d0;replace H:=ae.mp H;obtain ⟨⟨T,V⟩,d1,H⟩:=H;replace H : ((af k K L T V a3).bind fun q=>((trivetref01_To.f k q.1 q.2).bind fun p=>(if p.2 = true then (some (p.1,true)) else (some (0,false))))) = some (r1,r2):=H;have A8:=ka d1;clear d1;replace H:=ae.mp H;obtain ⟨⟨W,X⟩,d2,H⟩:=H;replace H : ((trivetref01_To.f k W X).bind fun p=>(if p.2 = true then (some (p.1,true)) else (some (0,false)))) = some (r1,r2):=H;have A9:=ka d2;clear d2;replace H:=ae.mp H;obtain ⟨⟨a8,b5⟩,b6,H⟩:=H;replace H : (if b5 = true then (some (a8,true)) else (some (0,false))) = some (r1,r2):=H;have d3:=ka b6;clear b6;by_cases c11 : b5 = true
 ·subst c11;have H1 : (some (a8,true)) = some (r1,r2):=by rw [if_pos rfl] at H;exact H
  clear H;have H:=H1;clear H1;simp only [ag,Prod.mk.injEq] at H
  obtain ⟨rfl,rfl⟩:=H;go_enter Try.func22,Try.ntmps22
  go_wp2_with (first|((with_reducible refine am (f:=24) rfl ?_);refine kg (some 14) rfl rfl Try.func24 (by kernel_rfl) rfl #[.int .i64 a0] rfl ?_;(with_reducible refine (an k a0 I J _ A5.out).mono ?_);rintro e k6 ⟨d6,rfl,ho0,hb⟩;refine ⟨_,rfl,?_⟩;have l:=ka (av (ax (ok':=fun E=>True) ho0 (fun E Z=>trivial)) (ap (kw HB.out)));replace HB:=ka (ak (kw HB.out) hb);(try clear hb ho0))|((with_reducible refine am (f:=24) rfl ?_);refine kg (some 16) rfl rfl Try.func24 (by kernel_rfl) rfl #[.int .i64 a1] rfl ?_;(with_reducible refine (an k a1 Q S _ A6.out).mono ?_);rintro e k7 ⟨d7,rfl,ho0,hb⟩;refine ⟨_,rfl,?_⟩;replace l:=kvb l hb;have o:=ka (av (ax (ok':=fun E=>True) ho0 (fun E Z=>trivial)) (ap (kw HB.out)));replace HB:=ka (ak (kw HB.out) hb);(try clear hb ho0);obtain ⟨b7,b8,b2⟩:=aw l.out;subst b2;obtain ⟨d8,d9,e0⟩:=aw o.out;subst e0)|((with_reducible refine am (f:=25) rfl ?_);refine kg (some 17) rfl rfl Try.func25 (by kernel_rfl) rfl #[.agg #[.slice b7 I.length b8,.bool J],.agg #[.slice d8 Q.length d9,.bool S]] rfl ?_;(with_reducible refine (trivetref01_Mul.calls k _ _ I J _ _ Q S K L _ ?side1 ?side2 ?side3 ?side4 A7.out).mono ?_);(case side1=>repeat (first|exact (ao l.out).2.2|with_reducible first|refine aE ?_ _|refine aF ?_ _|refine aL ?_));(case side2=>exact (ao l.out).2.1);(case side3=>repeat (first|exact (ao o.out).2.2|with_reducible first|refine aE ?_ _|refine aF ?_ _|refine aL ?_));(case side4=>exact (ao o.out).2.1);rintro e k8 ⟨e1,rfl,ho0,hb⟩;refine ⟨_,rfl,?_⟩;replace l:=kvb l hb;replace o:=kvb o hb;have r:=ka (av (ax (ok':=fun E=>True) ho0 (fun E Z=>trivial)) (ap (kw HB.out)));replace HB:=ka (ak (kw HB.out) hb);(try clear hb ho0))|((with_reducible refine am (f:=24) rfl ?_);refine kg (some 19) rfl rfl Try.func24 (by kernel_rfl) rfl #[.int .i64 a2] rfl ?_;(with_reducible refine (an k a2 T V _ A8.out).mono ?_);rintro e k9 ⟨e2,rfl,ho0,hb⟩;refine ⟨_,rfl,?_⟩;replace l:=kvb l hb;replace o:=kvb o hb;replace r:=kvb r hb;have u:=ka (av (ax (ok':=fun E=>True) ho0 (fun E Z=>trivial)) (ap (kw HB.out)));replace HB:=ka (ak (kw HB.out) hb);(try clear hb ho0);obtain ⟨e5,e6,e7⟩:=aw r.out;subst e7;obtain ⟨e8,e9,f0⟩:=aw u.out;subst f0)|((with_reducible refine am (f:=26) rfl ?_);refine kg (some 21) rfl rfl Try.func26 (by kernel_rfl) rfl #[.agg #[.slice e5 K.length e6,.bool L],.agg #[.slice e8 T.length e9,.bool V],.int .i64 a3] rfl ?_;(with_reducible refine (aG k (fun E=>True) _ _ K L (fun E=>True) _ _ T V a3 W X _ ?side1 ?side2 A9.out).mono ?_);(case side1=>exact r.out);(case side2=>exact u.out);rintro e l1 ⟨f1,rfl,ho0,hb⟩;refine ⟨_,rfl,?_⟩;replace l:=kvb l hb;replace o:=kvb o hb;replace r:=kvb r hb;replace u:=kvb u hb;have A:=ka (av (ax (ok':=fun E=>True) ho0 (fun E Z=>trivial)) (ap (kw HB.out)));replace HB:=ka (ak (kw HB.out) hb);(try clear hb ho0);obtain ⟨f2,f3,f4⟩:=aw A.out;subst f4)|((with_reducible refine am (f:=27) rfl ?_);refine kg (some 22) rfl rfl Try.func27 (by kernel_rfl) rfl #[.agg #[.slice f2 W.length f3,.bool X]] rfl ?_;(with_reducible refine (trivetref01_To.calls k _ _ W X a8 true _ ?side1 ?side2 d3.out).mono ?_);(case side1=>repeat (first|exact (ao A.out).2.2|with_reducible first|refine aE ?_ _|refine aF ?_ _|refine aL ?_));(case side2=>exact (ao A.out).2.1);rintro e i5 ⟨rfl,hb⟩;refine ⟨_,rfl,?_⟩;replace l:=kvb l hb;replace o:=kvb o hb;replace r:=kvb r hb;replace u:=kvb u hb;replace A:=kvb A hb;replace HB:=ka (ak (kw HB.out) hb);(try clear hb)))
  go_ret2
  exact ⟨by first|rfl|(simp [ah,ai] <;> rfl)|(simp [*,ah,ai] <;> rfl),by repeat (first|(with_reducible first|exact HB.out|apply kc1|apply kc2|apply kc3)|exact HB.out)⟩
 ·replace c11:=Bool.eq_false_iff.mpr c11;subst c11;have H1 : (some (0,false)) = some (r1,r2):=by rw [if_neg (show ¬ (false = true) by decide)] at H;exact H
  clear H;have H:=H1;clear H1;simp only [ag,Prod.mk.injEq] at H
  obtain ⟨rfl,rfl⟩:=H;go_enter Try.func22,Try.ntmps22
  go_wp2_with (first|((with_reducible refine am (f:=24) rfl ?_);refine kg (some 14) rfl rfl Try.func24 (by kernel_rfl) rfl #[.int .i64 a0] rfl ?_;(with_reducible refine (an k a0 I J _ A5.out).mono ?_);rintro e l2 ⟨d6,rfl,ho0,hb⟩;refine ⟨_,rfl,?_⟩;have l:=ka (av (ax (ok':=fun E=>True) ho0 (fun E Z=>trivial)) (ap (kw HB.out)));replace HB:=ka (ak (kw HB.out) hb);(try clear hb ho0))|((with_reducible refine am (f:=24) rfl ?_);refine kg (some 16) rfl rfl Try.func24 (by kernel_rfl) rfl #[.int .i64 a1] rfl ?_;(with_reducible refine (an k a1 Q S _ A6.out).mono ?_);rintro e l3 ⟨d7,rfl,ho0,hb⟩;refine ⟨_,rfl,?_⟩;replace l:=kvb l hb;have o:=ka (av (ax (ok':=fun E=>True) ho0 (fun E Z=>trivial)) (ap (kw HB.out)));replace HB:=ka (ak (kw HB.out) hb);(try clear hb ho0);obtain ⟨f5,f6,f7⟩:=aw l.out;subst f7;obtain ⟨f8,f9,g0⟩:=aw o.out;subst g0)|((with_reducible refine am (f:=25) rfl ?_);refine kg (some 17) rfl rfl Try.func25 (by kernel_rfl) rfl #[.agg #[.slice f5 I.length f6,.bool J],.agg #[.slice f8 Q.length f9,.bool S]] rfl ?_;(with_reducible refine (trivetref01_Mul.calls k _ _ I J _ _ Q S K L _ ?side1 ?side2 ?side3 ?side4 A7.out).mono ?_);(case side1=>repeat (first|exact (ao l.out).2.2|with_reducible first|refine aE ?_ _|refine aF ?_ _|refine aL ?_));(case side2=>exact (ao l.out).2.1);(case side3=>repeat (first|exact (ao o.out).2.2|with_reducible first|refine aE ?_ _|refine aF ?_ _|refine aL ?_));(case side4=>exact (ao o.out).2.1);rintro e l4 ⟨e1,rfl,ho0,hb⟩;refine ⟨_,rfl,?_⟩;replace l:=kvb l hb;replace o:=kvb o hb;have r:=ka (av (ax (ok':=fun E=>True) ho0 (fun E Z=>trivial)) (ap (kw HB.out)));replace HB:=ka (ak (kw HB.out) hb);(try clear hb ho0))|((with_reducible refine am (f:=24) rfl ?_);refine kg (some 19) rfl rfl Try.func24 (by kernel_rfl) rfl #[.int .i64 a2] rfl ?_;(with_reducible refine (an k a2 T V _ A8.out).mono ?_);rintro e l5 ⟨e2,rfl,ho0,hb⟩;refine ⟨_,rfl,?_⟩;replace l:=kvb l hb;replace o:=kvb o hb;replace r:=kvb r hb;have u:=ka (av (ax (ok':=fun E=>True) ho0 (fun E Z=>trivial)) (ap (kw HB.out)));replace HB:=ka (ak (kw HB.out) hb);(try clear hb ho0);obtain ⟨g1,g2,g3⟩:=aw r.out;subst g3;obtain ⟨g4,g5,g6⟩:=aw u.out;subst g6)|((with_reducible refine am (f:=26) rfl ?_);refine kg (some 21) rfl rfl Try.func26 (by kernel_rfl) rfl #[.agg #[.slice g1 K.length g2,.bool L],.agg #[.slice g4 T.length g5,.bool V],.int .i64 a3] rfl ?_;(with_reducible refine (aG k (fun E=>True) _ _ K L (fun E=>True) _ _ T V a3 W X _ ?side1 ?side2 A9.out).mono ?_);(case side1=>exact r.out);(case side2=>exact u.out);rintro e l6 ⟨f1,rfl,ho0,hb⟩;refine ⟨_,rfl,?_⟩;replace l:=kvb l hb;replace o:=kvb o hb;replace r:=kvb r hb;replace u:=kvb u hb;have A:=ka (av (ax (ok':=fun E=>True) ho0 (fun E Z=>trivial)) (ap (kw HB.out)));replace HB:=ka (ak (kw HB.out) hb);(try clear hb ho0);obtain ⟨g7,g8,g9⟩:=aw A.out;subst g9)|((with_reducible refine am (f:=27) rfl ?_);refine kg (some 22) rfl rfl Try.func27 (by kernel_rfl) rfl #[.agg #[.slice g7 W.length g8,.bool X]] rfl ?_;(with_reducible refine (trivetref01_To.calls k _ _ W X a8 false _ ?side1 ?side2 d3.out).mono ?_);(case side1=>repeat (first|exact (ao A.out).2.2|with_reducible first|refine aE ?_ _|refine aF ?_ _|refine aL ?_));(case side2=>exact (ao A.out).2.1);rintro e l7 ⟨rfl,hb⟩;refine ⟨_,rfl,?_⟩;replace l:=kvb l hb;replace o:=kvb o hb;replace r:=kvb r hb;replace u:=kvb u hb;replace A:=kvb A hb;replace HB:=ka (ak (kw HB.out) hb);(try clear hb)))
  go_ret2
  exact ⟨by first|rfl|(simp [ah,ai] <;> rfl)|(simp [*,ah,ai] <;> rfl),by repeat (first|(with_reducible first|exact HB.out|apply kc1|apply kc2|apply kc3)|exact HB.out)⟩
theorem trivetref01_MulDiv.num (k : Nat) (a b c mode : Int) (ha : aM a) (hb : aM b) (hc : aM c) (h0 : c≠0) (hk : 7500≤k) :
  trivetref01_MulDiv.f k a b c mode = some (if aM (aB (a * b) c mode) then (aB (a * b) c mode,true) else (0,false)):=by
 have p8 : (9223372036854775808 : Int) * 9223372036854775808 < 65536 ^ 15:=by decide
 have p1 : (9223372036854775808 : Int) < 65536 ^ 15:=by decide
 have p15 : (65536 : Int) ^ 15 < 65536 ^ 32:=by decide
 have p20 : (65536 : Int) ^ 15 * 2 < 65536 ^ 64:=by decide
 have ha' : ad a≤9223372036854775808:=by unfold aM at ha;unfold ad;split <;> omega
 have hb' : ad b≤9223372036854775808:=by unfold aM at hb;unfold ad;split <;> omega
 have hc' : ad c≤9223372036854775808:=by unfold aM at hc;unfold ad;split <;> omega
 have hab : ad (a * b)≤9223372036854775808 * 9223372036854775808:=by
  have e : ad (a * b) = ad a * ad b:=by
   unfold ad
   by_cases h : a < 0
   ·by_cases g : b < 0
    ·rw [if_neg (show ¬ a * b < 0 from Int.not_lt.mpr (Int.mul_nonneg_of_nonpos_of_nonpos (by omega) (by omega))),if_pos h,if_pos g,Int.neg_mul_neg]
    ·rw [if_pos h,if_neg g,Int.neg_mul]
     have:=Int.mul_nonneg (show 0≤-a by omega) (show 0≤b by omega);rw [Int.neg_mul] at this
     split <;> omega
   ·by_cases g : b < 0
    ·rw [if_neg h,if_pos g,Int.mul_neg]
     have:=Int.mul_nonneg (show 0≤a by omega) (show 0≤-b by omega);rw [Int.mul_neg] at this
     split <;> omega
    ·rw [if_neg (show ¬ a * b < 0 from Int.not_lt.mpr (Int.mul_nonneg (by omega) (by omega))),if_neg h,if_neg g]
  rw [e]
  exact Int.mul_le_mul ha' hb' (aC b) (by decide)
 have hq : ad (aB (a * b) c mode) < 65536 ^ 64:=by
  have key : ∀ x d : Int,0 < d→ad x < 65536 ^ 15→ad (aB x d mode) < 65536 ^ 64:=by
   intro x d hd hx;have h1:=Qu.abs_div (x:=x) hd;have h3 : ad (x / d + 1)≤ad (x / d) + 1:=by unfold ad;split <;> split <;> omega
   have h4 : aB x d mode = x / d∨aB x d mode = x / d + 1:=by
    rw [Qu.quo_pos hd]
    split
    ·exact .inl rfl
    ·split
     ·exact .inr rfl
     ·split
      ·exact .inl rfl
      ·split
       ·exact .inr rfl
       ·split
        ·exact .inl rfl
        ·exact .inr rfl
   rcases h4 with h4|h4 <;> rw [h4] <;> omega
  by_cases g : c < 0
  ·rw [Qu.quo_neg g]
   refine key _ _ (by omega) ?_;have : ad (-(a * b)) = ad (a * b):=by unfold ad;split <;> split <;> omega
   omega
  ·exact key _ _ (by omega) (by omega)
 unfold trivetref01_MulDiv.f
 rw [ay k a ha (by omega),aa,ay k b hb (by omega),aa,trivetref01_Mul.num k a b (by omega) (by omega) (by omega),aa,ay k c hc (by omega),aa,trivetref01_Quotient.num k (a * b) c mode (by omega) h0 (by omega) hk,aa]
 obtain ⟨v,t1,t2⟩:=trivetref01_To.num k (aB (a * b) c mode) (by omega) hq;rw [t1,aa]
 by_cases hin : aM (aB (a * b) c mode)
 ·rw [if_pos (decide_eq_true hin),if_pos hin,t2 hin]
 ·rw [if_neg (by simpa using hin),if_neg hin]
mutual
def trivetref18_Cut.l0 : Nat→Int→Int→Int→Int→List Int→Int→Option (Int × Int × Int × Bool)
 | 0,_,_,_,_,_,_=>none
 | k + 1,x0,x1,x2,x3,x12,x13=>if x13 < 4 then (if 0≤x13 then (if x13 < (x12.length : Int) then (if (rd x12 x13) < 0 then (some (0,0,0,false)) else (if (rd x12 x13) > 10000000000000 then (some (0,0,0,false)) else (trivetref18_Cut.l0 k x0 x1 x2 x3 x12 (wrap64 (x13 + 1))))) else (none)) else (none)) else (if (wrap64 (x1 + x2)) > x3 then (trivetref18_Cut.j1 k x0 x1 x2 x3 true) else (trivetref18_Cut.j1 k x0 x1 x2 x3 (decide (x0 > x3))))
def trivetref18_Cut.j1 : Nat→Int→Int→Int→Int→Bool→Option (Int × Int × Int × Bool)
 | 0,_,_,_,_,_=>none
 | k + 1,x0,x1,x2,x3,x48=>if x48 = true then (some (0,0,0,false)) else (if x3 = 0 then (some (0,0,0,true)) else ((trivetref01_MulDiv.f k x1 x0 x3 1).bind fun a4=>((trivetref01_MulDiv.f k x2 x0 x3 1).bind fun G=>(some (wrap64 ((wrap64 (x0 - a4.1)) - G.1),a4.1,G.1,true)))))
end
def trivetref18_Cut.f (k : Nat) (a0 : Int) (a1 : Int) (a2 : Int) (a3 : Int) : Option (Int × Int × Int × Bool):=trivetref18_Cut.l0 k a0 a1 a2 a3 (([a0,a1,a2,a3] : List Int)) 0
theorem trivetref18_Cut.calls (k : Nat) (a0 : Int) (a1 : Int) (a2 : Int) (a3 : Int) (r1 : Int) (r2 : Int) (r3 : Int) (r4 : Bool) (w : World) (h : trivetref18_Cut.f k a0 a1 a2 a3 = some (r1,r2,r3,r4)) :
  Calls Try.prog 14 #[.int .i64 a0,.int .i64 a1,.int .i64 a2,.int .i64 a3] w fun e w'=>e = .returned (.tuple #[.int .i64 r1,.int .i64 r2,.int .i64 r3,.bool r4])∧Below w.heap.size w w':=by
 have HB:=ka (Below.refl w.heap.size w);have H : (trivetref18_Cut.l0 k a0 a1 a2 a3 (([a0,a1,a2,a3] : List Int)) 0) = some (r1,r2,r3,r4):=h;clear h;obtain ⟨y706,hy706⟩ : ∃ y_ : List Int,y_ = (([a0,a1,a2,a3] : List Int)):=⟨_,rfl⟩
 replace H : (trivetref18_Cut.l0 k a0 a1 a2 a3 y706 0) = some (r1,r2,r3,r4):=by first|(rw [hy706];with_reducible exact H)|(have H2_:=(aa _ _).symm.trans H;rw [hy706];with_reducible exact H2_)|(have H2_:=(aa _ _).symm.trans H;with_reducible exact H2_)|with_reducible exact H|(rw [hy706];exact H)|exact H
 have Ny706:=ka hy706;clear hy706;have H':=ka H;clear H;go_enter Try.func14,Try.ntmps14
 go_wp2_with (first|((with_reducible refine gate_dst (N:=22) rfl ?_);refine Kd.R_lit (aO .i64) _ 2 ?hg (N:=22) ?hd (xs:=([a0,a1,a2,a3] : List Int)) (inner:=[.int .i64 a0,.int .i64 a1,.int .i64 a2,.int .i64 a3]) (ok:=fun _=>True) (okp:=fun _=>True) ?hr ?hp (fun _ hk=>hk) trivial (Below.refl _ _) (aA _) (by simp) ?_;(case hd=>rfl);(case hg=>rfl);(case hr=>first|(go_simp;done)|(go_simp;rfl));(case hp=>exact (Reps.one (show Kd.M (aO .i64) _ _ _ a0 [.int .i64 a0] from rfl) (Reps.one (show Kd.M (aO .i64) _ _ _ a1 [.int .i64 a1] from rfl) (Reps.one (show Kd.M (aO .i64) _ _ _ a2 [.int .i64 a2] from rfl) (Reps.one (show Kd.M (aO .i64) _ _ _ a3 [.int .i64 a3] from rfl) (Reps.none _ _))))));intro h5 w5 ho6 hb hg_ hnew_;clear hg_ hnew_;(first|rw [← Ny706.out] at ho6|(simp only [Int.reduceToNat] at ho6;rw [← Ny706.out] at ho6));have c4:=ka (Kd.R_lower ho6 (ap (kw HB.out)));replace HB:=ka (ak (kw HB.out) hb);clear hb ho6))
 (try simp only [Act.put,List.setIfInBounds_toArray,List.set_cons_zero,List.set_cons_succ]);go_loopg [13] k (fun kq i6 w'=>∃ (x13_1 : Int),i6 = .int .i64 x13_1∧aI (trivetref18_Cut.l0 kq a0 a1 a2 a3 y706 x13_1 = some (r1,r2,r3,r4))∧aI (kq≤k)∧aI (Kd.R (aO .i64) 2 w' w.heap.size (fun _=>True) h5 y706)∧aI (Below w.heap.size w w'))
 case atStart=>exact ⟨(0),(by first|rfl|(simp;done)|(simp [*];done)),H',⟨aA _⟩,⟨kr c4.out⟩,⟨by repeat (first|(with_reducible first|exact HB.out|apply kc1|apply kc2|apply kc3)|exact HB.out)⟩⟩
 case round=>
  clear H';try clear c1
  obtain ⟨x13_1,rfl,HA,HK1,D,HB⟩:=hrel;cases gk with
  | zero=>exact absurd HA.out (by simp [trivetref18_Cut.l0])
  | succ k1=>
   have H:=HA.out;clear HA;simp only [trivetref18_Cut.l0] at H
   by_cases c7 : x13_1 < 4
   ·rw [if_pos c7] at H
    have c7b0 : decide (x13_1 < 4) = true:=decide_eq_true c7;clear c7;by_cases c8 : 0≤x13_1
    ·rw [if_pos c8] at H
     have c8b0 : decide (0≤x13_1) = true:=decide_eq_true c8;clear c8;by_cases c9 : x13_1 < (y706.length : Int)
     ·rw [if_pos c9] at H
      have c9b0 : decide (x13_1 < (y706.length : Int)) = true:=decide_eq_true c9;clear c9;by_cases c10 : (rd y706 x13_1) < 0
      ·rw [if_pos c10] at H
       have c10b0 : decide ((rd y706 x13_1) < 0) = true:=decide_eq_true c10;clear c10;simp only [ag,Prod.mk.injEq] at H
       obtain ⟨rfl,rfl,rfl,rfl⟩:=H;obtain ⟨k0,k2,h6⟩:=Kd.R_slice D.out;subst h6;have p709 : 0≤(x13_1 : Int):=of_decide_eq_true (by first|(with_reducible assumption)|assumption);have q709 : x13_1 < (y706.length : Int):=of_decide_eq_true (by first|(with_reducible assumption)|assumption);obtain ⟨ad709,e709,hx709_0⟩:=aK (aH D.out).2.2 x13_1 p709 q709;cases e709
       replace p709:=eq_true p709;replace q709:=eq_true q709;go_wp2
       refine bodyPost_ret (aD (rs:=[.tmp 8,.tmp 9,.tmp 10,.tmp 11]) rfl (by simp) (.tmp (.tmp (.tmp (.tmp .nil))))) rfl ?_;exact ⟨by first|rfl|(simp [ah,ai] <;> rfl)|(simp [*,ah,ai] <;> rfl),by repeat (first|(with_reducible first|exact HB.out|apply kc1|apply kc2|apply kc3)|exact HB.out)⟩
      ·rw [if_neg c10] at H
       have c10b0 : decide ((rd y706 x13_1) < 0) = false:=decide_eq_false c10;clear c10;by_cases c12 : (rd y706 x13_1) > 10000000000000
       ·rw [if_pos c12] at H
        have c12b0 : decide (10000000000000 < (rd y706 x13_1)) = true:=decide_eq_true c12;clear c12;simp only [ag,Prod.mk.injEq] at H
        obtain ⟨rfl,rfl,rfl,rfl⟩:=H;obtain ⟨k3,k4,h7⟩:=Kd.R_slice D.out;subst h7;have p709 : 0≤(x13_1 : Int):=of_decide_eq_true (by first|(with_reducible assumption)|assumption);have q709 : x13_1 < (y706.length : Int):=of_decide_eq_true (by first|(with_reducible assumption)|assumption);obtain ⟨ad709,e709,hx709_0⟩:=aK (aH D.out).2.2 x13_1 p709 q709;cases e709
        replace p709:=eq_true p709;replace q709:=eq_true q709;have p710 : 0≤(x13_1 : Int):=of_decide_eq_true (by first|(with_reducible assumption)|assumption);have q710 : x13_1 < (y706.length : Int):=of_decide_eq_true (by first|(with_reducible assumption)|assumption);obtain ⟨ad710,e710,hx710_0⟩:=aK (aH D.out).2.2 x13_1 p710 q710;obtain rfl : ad709 = ad710:=(by injection e710)
        replace p710:=eq_true p710;replace q710:=eq_true q710;go_wp2
        refine bodyPost_ret (aD (rs:=[.tmp 8,.tmp 9,.tmp 10,.tmp 11]) rfl (by simp) (.tmp (.tmp (.tmp (.tmp .nil))))) rfl ?_;exact ⟨by first|rfl|(simp [ah,ai] <;> rfl)|(simp [*,ah,ai] <;> rfl),by repeat (first|(with_reducible first|exact HB.out|apply kc1|apply kc2|apply kc3)|exact HB.out)⟩
       ·rw [if_neg c12] at H
        have c12b0 : decide (10000000000000 < (rd y706 x13_1)) = false:=decide_eq_false c12;clear c12;have H':=ka H;clear H;obtain ⟨b7,b8,b2⟩:=Kd.R_slice D.out;subst b2;have p709 : 0≤(x13_1 : Int):=of_decide_eq_true (by first|(with_reducible assumption)|assumption);have q709 : x13_1 < (y706.length : Int):=of_decide_eq_true (by first|(with_reducible assumption)|assumption);obtain ⟨ad709,e709,hx709_0⟩:=aK (aH D.out).2.2 x13_1 p709 q709;cases e709
        replace p709:=eq_true p709;replace q709:=eq_true q709;have p710 : 0≤(x13_1 : Int):=of_decide_eq_true (by first|(with_reducible assumption)|assumption);have q710 : x13_1 < (y706.length : Int):=of_decide_eq_true (by first|(with_reducible assumption)|assumption);obtain ⟨ad710,e710,hx710_0⟩:=aK (aH D.out).2.2 x13_1 p710 q710;obtain rfl : ad709 = ad710:=(by injection e710)
        replace p710:=eq_true p710;replace q710:=eq_true q710;go_wp2
        go_roundg k1
        case measure=>have:=HK1.out;omega
        case rel=>exact ⟨(wrap64 (x13_1 + 1)),(by first|rfl|(simp;done)|(simp [*];done)),H',⟨by have:=HK1.out;omega⟩,⟨kr D.out⟩,⟨by repeat (first|(with_reducible first|exact HB.out|apply kc1|apply kc2|apply kc3)|exact HB.out)⟩⟩
     ·rw [if_neg c9] at H
      exact absurd H (by simp)
    ·rw [if_neg c8] at H
     exact absurd H (by simp)
   ·rw [if_neg c7] at H
    have c7b0 : decide (x13_1 < 4) = false:=decide_eq_false c7;clear c7;have b3:=ka H;clear H;go_upto_region 7 with (fail)
    go_cut [48] (fun i7 wc=>∃ (kq : Nat) (x48_14 : Bool),i7 = .bool x48_14∧aI (trivetref18_Cut.j1 kq a0 a1 a2 a3 x48_14 = some (r1,r2,r3,r4))∧aI (kq≤k1)∧aI (Below w.heap.size w wc))
    case first=>
     have H:=b3.out;clear b3;by_cases c16 : (wrap64 (a1 + a2)) > a3
     ·rw [if_pos c16] at H
      have c16b0 : decide (a3 < (wrap64 (a1 + a2))) = true:=decide_eq_true c16;clear c16;(first|rw [c16b0]|(simp only [i64_w,i32_w];rw [c16b0])|skip);have H':=ka H;clear H;go_wp2
      go_meet
      case rel=>exact ⟨_,(true),(by first|rfl|(simp;done)|(simp [*];done)),H',⟨by have:=HK1.out;first|omega|exact aA _⟩,⟨by repeat (first|(with_reducible first|exact HB.out|apply kc1|apply kc2|apply kc3)|exact HB.out)⟩⟩
     ·rw [if_neg c16] at H
      have c16b0 : decide (a3 < (wrap64 (a1 + a2))) = false:=decide_eq_false c16;clear c16;(first|rw [c16b0]|(simp only [i64_w,i32_w];rw [c16b0])|skip);have H':=ka H;clear H;go_wp2
      go_meet
      case rel=>exact ⟨_,(decide (a0 > a3)),(by first|rfl|(simp;done)|(simp [*];done)),H',⟨by have:=HK1.out;first|omega|exact aA _⟩,⟨by repeat (first|(with_reducible first|exact HB.out|apply kc1|apply kc2|apply kc3)|exact HB.out)⟩⟩
    case rest=>
     clear b3;try clear c1
     try clear c7
     try clear c7b0
     obtain ⟨kq,x48_14,rfl,HA,k5,HB⟩:=hcut;cases kq with
     | zero=>exact absurd HA.out (by simp [trivetref18_Cut.j1])
     | succ kj14=>
      have H:=HA.out;clear HA;simp only [trivetref18_Cut.j1] at H
      by_cases c17 : x48_14 = true
      ·subst c17;have H1 : (some (0,0,0,false)) = some (r1,r2,r3,r4):=by rw [if_pos rfl] at H;exact H
       clear H;have H:=H1;clear H1;simp only [ag,Prod.mk.injEq] at H
       obtain ⟨rfl,rfl,rfl,rfl⟩:=H;go_wp2
       refine bodyPost_ret (aD (rs:=[.tmp 8,.tmp 9,.tmp 10,.tmp 11]) rfl (by simp) (.tmp (.tmp (.tmp (.tmp .nil))))) rfl ?_;exact ⟨by first|rfl|(simp [ah,ai] <;> rfl)|(simp [*,ah,ai] <;> rfl),by repeat (first|(with_reducible first|exact HB.out|apply kc1|apply kc2|apply kc3)|exact HB.out)⟩
      ·replace c17:=Bool.eq_false_iff.mpr c17;subst c17;have H1 : (if a3 = 0 then (some (0,0,0,true)) else ((trivetref01_MulDiv.f kj14 a1 a0 a3 1).bind fun a4=>((trivetref01_MulDiv.f kj14 a2 a0 a3 1).bind fun G=>(some (wrap64 ((wrap64 (a0 - a4.1)) - G.1),a4.1,G.1,true))))) = some (r1,r2,r3,r4):=by rw [if_neg (show ¬ (false = true) by decide)] at H;exact H
       clear H;have H:=H1;clear H1;by_cases c18 : a3 = 0
       ·rw [if_pos c18] at H
        have c18b0 : (a3 == 0) = true:=beq_iff_eq.mpr c18;have c18b1 : (a3 != 0) = false:=bne_eq_false_iff_eq.mpr c18;clear c18;simp only [ag,Prod.mk.injEq] at H
        obtain ⟨rfl,rfl,rfl,rfl⟩:=H;go_wp2
        refine bodyPost_ret (aD (rs:=[.tmp 8,.tmp 9,.tmp 10,.tmp 11]) rfl (by simp) (.tmp (.tmp (.tmp (.tmp .nil))))) rfl ?_;exact ⟨by first|rfl|(simp [ah,ai] <;> rfl)|(simp [*,ah,ai] <;> rfl),by repeat (first|(with_reducible first|exact HB.out|apply kc1|apply kc2|apply kc3)|exact HB.out)⟩
       ·rw [if_neg c18] at H
        have c18b0 : (a3 == 0) = false:=beq_eq_false_iff_ne.mpr c18;have c18b1 : (a3 != 0) = true:=bne_iff_ne.mpr c18;replace H:=ae.mp H;obtain ⟨⟨a7,h8⟩,b9,H⟩:=H;replace H : ((trivetref01_MulDiv.f kj14 a2 a0 a3 1).bind fun G=>(some (wrap64 ((wrap64 (a0 - a7)) - G.1),a7,G.1,true))) = some (r1,r2,r3,r4):=H;have i8:=ka b9;clear b9;replace H:=ae.mp H;obtain ⟨⟨b4,h9⟩,c0,H⟩:=H;replace H : (some (wrap64 ((wrap64 (a0 - a7)) - b4),a7,b4,true)) = some (r1,r2,r3,r4):=H;have i9:=ka c0;clear c0;simp only [ag,Prod.mk.injEq] at H
        obtain ⟨rfl,rfl,rfl,rfl⟩:=H;go_wp2_with (first|((with_reducible refine am (f:=22) rfl ?_);refine kg (some 55) rfl rfl Try.func22 (by kernel_rfl) rfl #[.int .i64 a1,.int .i64 a0,.int .i64 a3,.int .i64 1] rfl ?_;(with_reducible refine (trivetref01_MulDiv.calls kj14 a1 a0 a3 1 a7 h8 _ i8.out).mono ?_);rintro e l8 ⟨rfl,hb⟩;refine ⟨_,rfl,?_⟩;replace HB:=ka (ak (kw HB.out) hb);(try clear hb))|((with_reducible refine am (f:=22) rfl ?_);refine kg (some 62) rfl rfl Try.func22 (by kernel_rfl) rfl #[.int .i64 a2,.int .i64 a0,.int .i64 a3,.int .i64 1] rfl ?_;(with_reducible refine (trivetref01_MulDiv.calls kj14 a2 a0 a3 1 b4 h9 _ i9.out).mono ?_);rintro e i5 ⟨rfl,hb⟩;refine ⟨_,rfl,?_⟩;replace HB:=ka (ak (kw HB.out) hb);(try clear hb)))
        refine bodyPost_ret (aD (rs:=[.tmp 8,.tmp 9,.tmp 10,.tmp 11]) rfl (by simp) (.tmp (.tmp (.tmp (.tmp .nil))))) rfl ?_;exact ⟨by first|rfl|(simp [ah,ai] <;> rfl)|(simp [*,ah,ai] <;> rfl),by repeat (first|(with_reducible first|exact HB.out|apply kc1|apply kc2|apply kc3)|exact HB.out)⟩
end Go.Proofs.Ytghimjkoaldafaa.P
