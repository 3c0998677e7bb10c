-- Written by a program of this session out of the translation of the seat: Lean functions and the proofs that the Go functions come to them.
import Derived.Test.YtcpmfdagnchlbaaPx0
import Derived.Test.YtcpmfdagnchlbaaPx6
import Derived.Test.YtcpmfdagnchlbaaPx7
import Derived.Test.YtcpmfdagnchlbaaPx9
import Derived.Test.YtcpmfdagnchlbaaPx11
import Derived.Test.YtcpmfdagnchlbaaPx12
namespace Go.Proofs.Ytcpmfdagnchlbaa.P
open Go.RowKit Go.Proofs.YtcpmfdagnchlbaaW.PrintWords Go.Proofs.YtcpmfdagnchlbaaW.PrintLast Go.Proofs.YtcpmfdagnchlbaaW.PrintMore
attribute [local go_sem] max2_int min2_int max_two min_two max_three min_three max_four min_four   -- for this text's walks alone
set_option linter.unusedVariables false
set_option linter.unusedSimpArgs false

/-! ### trivetref01_Quotient: function 25,its laws -/
theorem Qu.num_len (z : Int) : ((U.num z).1.length : Int) = 0 ↔ z = 0:=by
 have h:=U.dig_nil_iff (U.abs_nonneg z);have e : M.abs z = 0 ↔ z = 0:=by unfold M.abs;split <;> omega
 rw [← e,← h]
 show ((U.dig (M.abs z)).length : Int) = 0 ↔ _
 rw [← List.length_eq_zero_iff]
 omega
theorem Qu.num_low (z : Int) (h : z≠0) : rd (U.num z).1 0 = M.abs z % 65536:=by
 have e : M.abs z / 65536 ^ 0 = M.abs z:=by simp
 have:=Qu.dig_get 0 (M.abs z) (U.abs_nonneg z);rw [e] at this
 exact this
theorem Qu.rest {x c : Int} : x + -(x / c * c) = x % c:=by
 rw [Int.emod_def,Int.mul_comm c];omega
theorem Qu.quo_pos {x c mode : Int} (hc : 0 < c) : M.quo x c mode = if x % c = 0∨mode = 1 then x / c else if mode = 2 then x / c + 1 else if 2 * (x % c) < c then x / c else if 2 * (x % c) > c then x / c + 1 else if (mode = 4∧(x / c) % 2 = 0)∨(mode = 3∧x < 0) then x / c else x / c + 1:=by
 unfold M.quo
 simp only [if_neg (show ¬ c < 0 by omega)]
theorem Qu.quo_neg {x c mode : Int} (hc : c < 0) : M.quo x c mode = M.quo (-x) (-c) mode:=by
 unfold M.quo
 simp only [if_pos hc,if_neg (show ¬ -c < 0 by omega)]
theorem trivetref01_Quotient.tie (k : Nat) (mode x c : Int) (hc : 0 < c) (hm : mode≠1) (hm2 : mode≠2) (hr : x % c≠0) (h1 : ¬ 2 * (x % c) < c) (h2 : ¬ 2 * (x % c) > c) :
  (if ((U.num (x / c)).1.length : Int) = 0 then (if mode = 4 then (trivetref01_Quotient.j2 (k + 1) true (U.num (x / c)).1 (U.num (x / c)).2 (U.num (x / c + 1)).1 (U.num (x / c + 1)).2) else (if mode = 3 then (trivetref01_Quotient.j2 (k + 1) (U.num x).2 (U.num (x / c)).1 (U.num (x / c)).2 (U.num (x / c + 1)).1 (U.num (x / c + 1)).2) else (trivetref01_Quotient.j2 (k + 1) false (U.num (x / c)).1 (U.num (x / c)).2 (U.num (x / c + 1)).1 (U.num (x / c + 1)).2))) else (if 0 < ((U.num (x / c)).1.length : Int) then (if mode = 4 then (if (Int.tmod (rd (U.num (x / c)).1 0) 2) = 0 then (trivetref01_Quotient.j3 (k + 1) true (U.num (x / c)).1 (U.num (x / c)).2 (U.num (x / c + 1)).1 (U.num (x / c + 1)).2) else (if mode = 3 then (trivetref01_Quotient.j3 (k + 1) (U.num x).2 (U.num (x / c)).1 (U.num (x / c)).2 (U.num (x / c + 1)).1 (U.num (x / c + 1)).2) else (trivetref01_Quotient.j3 (k + 1) false (U.num (x / c)).1 (U.num (x / c)).2 (U.num (x / c + 1)).1 (U.num (x / c + 1)).2))) else (if mode = 3 then (trivetref01_Quotient.j3 (k + 1) (U.num x).2 (U.num (x / c)).1 (U.num (x / c)).2 (U.num (x / c + 1)).1 (U.num (x / c + 1)).2) else (trivetref01_Quotient.j3 (k + 1) false (U.num (x / c)).1 (U.num (x / c)).2 (U.num (x / c + 1)).1 (U.num (x / c + 1)).2))) else (none))) = some (U.num (M.quo x c mode)):=by
 have hs : (U.num x).2 = decide (x < 0):=rfl;have hl:=Qu.num_len (x / c);have hq:=Qu.quo_pos (x:=x) (mode:=mode) hc;rw [if_neg (show ¬ (x % c = 0∨mode = 1) by omega),if_neg hm2,if_neg h1,if_neg h2] at hq
 rw [hq,hs]
 simp only [trivetref01_Quotient.j2,trivetref01_Quotient.j3]
 by_cases h0 : x / c = 0
 ·rw [if_pos (hl.mpr h0)]
  rw [h0]
  by_cases m4 : mode = 4
  ·rw [if_pos m4,if_pos (by decide),if_pos (.inl ⟨m4,by decide⟩)]
  ·rw [if_neg m4]
   by_cases m3 : mode = 3
   ·rw [if_pos m3]
    by_cases hx : x < 0
    ·rw [if_pos (decide_eq_true hx),if_pos (.inr ⟨m3,hx⟩)]
    ·rw [if_neg (by simpa using hx),if_neg (by omega)]
   ·rw [if_neg m3,if_neg (by decide),if_neg (by omega)]
 ·have hpos : 0 < ((U.num (x / c)).1.length : Int):=by
   have : ¬ ((U.num (x / c)).1.length : Int) = 0:=fun h=>h0 (hl.mp h)
   omega
  rw [if_neg (fun h=>h0 (hl.mp h)),if_pos hpos]
  have hev : (Int.tmod (rd (U.num (x / c)).1 0) 2) = 0 ↔ (x / c) % 2 = 0:=by
   rw [Qu.num_low _ h0]
   have a0:=U.abs_nonneg (x / c);rw [M.tmodu (by omega)]
   unfold M.abs
   split <;> omega
  by_cases m4 : mode = 4
  ·rw [if_pos m4]
   by_cases he : (x / c) % 2 = 0
   ·rw [if_pos (hev.mpr he),if_pos (by decide),if_pos (.inl ⟨m4,he⟩)]
   ·rw [if_neg (fun h=>he (hev.mp h)),if_neg (show ¬ mode = 3 by omega),if_neg (by decide),if_neg (by omega)]
  ·rw [if_neg m4]
   by_cases m3 : mode = 3
   ·rw [if_pos m3]
    by_cases hx : x < 0
    ·rw [if_pos (decide_eq_true hx),if_pos (.inr ⟨m3,hx⟩)]
    ·rw [if_neg (by simpa using hx),if_neg (by omega)]
   ·rw [if_neg m3,if_neg (by decide),if_neg (by omega)]
theorem trivetref01_Quotient.later (k : Nat) (mode x c : Int) (hx : M.abs x < 65536 ^ 15) (hc : 0 < c) (hc2 : c < 65536 ^ 15) (hk : 400≤k) (hm : mode≠1) (hr : x % c≠0) :
  trivetref01_Quotient.j1 (k + 2) mode false (U.num x).1 (U.num x).2 (U.num c).1 (U.num c).2 (U.num (x / c)).1 (U.num (x / c)).2 (U.num (x % c)).1 (U.num (x % c)).2 = some (U.num (M.quo x c mode)):=by
 have p16 : (65536 : Int) ^ 15 * 4 < 65536 ^ 32:=by decide
 have p32 : (65536 : Int) ^ 32 * 4 < 65536 ^ 64:=by decide
 have hr0:=Int.emod_nonneg x (show c≠0 by omega);have hr1:=Int.emod_lt_of_pos x hc;have hab:=Qu.abs_div (x:=x) hc;have ar:=Qu.abs_pos hr0;have ac:=Qu.abs_pos (Int.le_of_lt hc);have a1 : M.abs 1 = 1:=rfl;have hq:=Qu.quo_pos (x:=x) (mode:=mode) hc;rw [if_neg (show ¬ (x % c = 0∨mode = 1) by omega)] at hq
 rw [show k + 2 = (k + 1) + 1 by omega]
 simp only [trivetref01_Quotient.j1]
 rw [if_neg (by decide),trivetref01_Of.num (k + 1) 1 (by decide) (by omega),Option.bind_some,trivetref01_Add.num (k + 1) (x / c) 1 (by omega) (by omega) (by omega),Option.bind_some]
 by_cases m2 : mode = 2
 ·rw [if_pos m2] at hq ⊢
  rw [hq]
 ·rw [if_neg m2] at hq ⊢
  have arr : M.abs (x % c + x % c) = x % c + x % c:=Qu.abs_pos (by omega);rw [trivetref01_Add.num (k + 1) (x % c) (x % c) (by omega) (by omega) (by omega),Option.bind_some,trivetref01_Cmp.num (k + 1) (x % c + x % c) c (by omega) (by omega) (by omega),Option.bind_some]
  by_cases h1 : 2 * (x % c) < c
  ·rw [if_pos h1] at hq
   rw [if_neg (show ¬ x % c + x % c = c by omega),if_pos (show x % c + x % c < c by omega),if_pos (by decide),hq]
  ·rw [if_neg h1] at hq
   by_cases h2 : 2 * (x % c) > c
   ·rw [if_pos h2] at hq
    rw [if_neg (show ¬ x % c + x % c = c by omega),if_neg (show ¬ x % c + x % c < c by omega),if_neg (by decide),if_pos (by decide),hq]
   ·rw [if_pos (show x % c + x % c = c by omega),if_neg (by decide),if_neg (by decide)]
    exact trivetref01_Quotient.tie k mode x c hc hm m2 hr h1 h2
theorem trivetref01_Quotient.pos (k : Nat) (mode x c : Int) (hx : M.abs x < 65536 ^ 15) (hc : 0 < c) (hc2 : c < 65536 ^ 15) (hk : 7500≤k) :
  trivetref01_Quotient.j0 k mode (U.num x).1 (U.num x).2 (U.num c).1 (U.num c).2 = some (U.num (M.quo x c mode)):=by
 have p16 : (65536 : Int) ^ 15 * 4 < 65536 ^ 16:=by decide
 have p20 : (65536 : Int) ^ 16 * 4 < 65536 ^ 32:=by decide
 have p32 : (65536 : Int) ^ 32 * 4 < 65536 ^ 64:=by decide
 have hr0:=Int.emod_nonneg x (show c≠0 by omega);have hr1:=Int.emod_lt_of_pos x hc;have hab:=Qu.abs_div (x:=x) hc;have ac:=Qu.abs_pos (Int.le_of_lt hc);have hrest:=Qu.rest (x:=x) (c:=c)
 have hp : M.abs (x / c * c) < 65536 ^ 64:=by
  have : x / c * c = x - x % c:=by omega
  rw [this]
  unfold M.abs at hx ⊢
  split at hx <;> split <;> omega
 have hpn : M.abs (-(x / c * c)) < 65536 ^ 64:=by
  unfold M.abs at hp ⊢
  split at hp <;> split <;> omega
 obtain ⟨j,rfl⟩ : ∃ j,k = (j + 2) + 1:=⟨k - 3,by omega⟩
 simp only [trivetref01_Quotient.j0]
 rw [trivetref01_floor.num (j + 2) x c (by omega) hc (by omega) (by omega),Option.bind_some,trivetref01_Mul.num (j + 2) (x / c) c (by omega) (by omega) (by omega),Option.bind_some,trivetref01_Neg.num (j + 2) (x / c * c) hp (by omega),Option.bind_some,trivetref01_Add.num (j + 2) x (-(x / c * c)) (by omega) hpn (by omega),Option.bind_some,hrest]
 have hl:=Qu.num_len (x % c);have hq:=Qu.quo_pos (x:=x) (mode:=mode) hc;by_cases h0 : x % c = 0
 ·rw [if_pos (.inl h0)] at hq
  rw [if_pos (hl.mpr h0),hq]
  simp only [trivetref01_Quotient.j1]
  rw [if_pos trivial]
 ·rw [if_neg (fun h=>h0 (hl.mp h))]
  by_cases m1 : mode = 1
  ·rw [if_pos (.inr m1)] at hq
   rw [hq,show (mode == 1) = true from beq_iff_eq.mpr m1]
   simp only [trivetref01_Quotient.j1]
   rw [if_pos trivial]
  ·rw [show (mode == 1) = false from beq_eq_false_iff_ne.mpr m1]
   exact trivetref01_Quotient.later j mode x c hx hc hc2 (by omega) m1 h0
theorem trivetref01_Quotient.num (k : Nat) (x c mode : Int) (hx : M.abs x < 65536 ^ 15) (hc : c≠0) (hc2 : M.abs c < 65536 ^ 15) (hk : 7500≤k) :
  trivetref01_Quotient.f k (U.num x).1 (U.num x).2 (U.num c).1 (U.num c).2 mode = some (U.num (M.quo x c mode)):=by
 have p32 : (65536 : Int) ^ 15 * 4 < 65536 ^ 64:=by decide
 have hs : (U.num c).2 = decide (c < 0):=rfl;unfold trivetref01_Quotient.f
 by_cases h : c < 0
 ·have e : M.abs c = -c:=by unfold M.abs;rw [if_pos h]
  have ex : M.abs (-x) = M.abs x:=by unfold M.abs;split <;> split <;> omega
  rw [if_pos (by rw [hs];exact decide_eq_true h),trivetref01_Neg.num k x (by omega) (by omega),Option.bind_some,trivetref01_Neg.num k c (by omega) (by omega),Option.bind_some,Qu.quo_neg h]
  exact trivetref01_Quotient.pos k mode (-x) (-c) (by omega) (by omega) (by omega) hk
 ·have e : M.abs c = c:=Qu.abs_pos (by omega);rw [if_neg (by rw [hs];simpa using h)]
  exact trivetref01_Quotient.pos k mode x c hx (by omega) (by omega) hk

/-! ### trivetref01_To: function 26 -/
def trivetref01_To.l0 : Nat→Int→Int→List Int→Bool→Option (Int × Bool)
 | 0,_,_,_,_=>none
 | k + 1,x4,x5,x646000,x646001=>if x5 ≥ 0 then (if 0≤x5 then (if x5 < (x646000.length : Int) then (trivetref01_To.l0 k (IntKind.u64.wrap ((IntKind.u64.wrap (x4 * 65536)) + (rd x646000 x5))) (wrap64 (x5 - 1)) x646000 x646001) else (none)) else (none)) else (if x646001 = true then (some (wrap64 (IntKind.u64.wrap ((Go.bits .xor .u64 18446744073709551615 x4) + 1)),decide (x4≤9223372036854775808))) else (some (wrap64 (x4),decide (x4 < 9223372036854775808))))
def trivetref01_To.f (k : Nat) (l0_0 : List Int) (a0_1 : Bool) : Option (Int × Bool):=if (l0_0.length : Int) > 4 then (some (0,false)) else (trivetref01_To.l0 k 0 (wrap64 ((l0_0.length : Int) - 1)) l0_0 a0_1)
set_option maxHeartbeats 8000000 in
set_option maxRecDepth 100000 in
theorem trivetref01_To.calls (k : Nat) (A0_0 : Option Addr) (c0_0 : Nat) (l0_0 : List Int) (a0_1 : Bool) (r1 : Int) (r2 : Bool) (w : World) (hr0_0 : Kd.C (Kd.int .u64) w A0_0 l0_0.length l0_0) (hc0_0 : l0_0.length≤c0_0) (h : trivetref01_To.f k l0_0 a0_1 = some (r1,r2)) :
  Calls Try.prog 26 #[.agg #[.slice A0_0 l0_0.length c0_0,.bool a0_1]] w fun e w'=>e = .returned (.tuple #[.int .i64 r1,.bool r2])∧Below w.heap.size w w':=by
 have hu34:=Try.underlying34;have HR0_0:=ka hr0_0;have HC0_0:=ka hc0_0;clear hr0_0 hc0_0;have HB:=ka (Below.refl w.heap.size w);have H : (if (l0_0.length : Int) > 4 then (some (0,false)) else (trivetref01_To.l0 k 0 (wrap64 ((l0_0.length : Int) - 1)) l0_0 a0_1)) = some (r1,r2):=h;clear h;by_cases c2 : (l0_0.length : Int) > 4
 ·rw [if_pos c2] at H
  have c2b0 : decide (4 < (l0_0.length : Int)) = true:=decide_eq_true c2;have c2b1 : decide (4 < l0_0.length) = true:=decide_eq_true (by omega);clear c2;simp only [Option.some.injEq,Prod.mk.injEq] at H
  obtain ⟨rfl,rfl⟩:=H;go_enter Try.func26,Try.ntmps26
  go_wp2_with (first|((with_reducible refine gate_dst (N:=1) rfl ?_);refine kx (N:=1) (cs:=#[.slice A0_0 l0_0.length c0_0,.bool a0_1]) (t:=34) ?_;intro o hg I hbox hb;have q:=ka (below_step (kw HB.out) hb);have r:=ka (hbox);have p:=ka ((by rw [hg];exact (below_size (kw HB.out)) : w.heap.size≤o));have s:=p;clear HB;have HB:=q;have b:=r;have u:=p;have l:=s;clear q r p s;clear hb hbox hg;have y:=blkAll2 b.out))
  go_ret2
  exact ⟨by first|rfl|(simp [errW_none,errW_some] <;> rfl)|(simp [*,errW_none,errW_some] <;> rfl),by repeat (first|(with_reducible first|exact HB.out|apply kc1|apply kc2|apply kc3|refine kc4 ?_ l.out)|exact HB.out)⟩
 ·rw [if_neg c2] at H
  have c2b0 : decide (4 < (l0_0.length : Int)) = false:=decide_eq_false c2;have c2b1 : decide (4 < l0_0.length) = false:=decide_eq_false (by omega);clear c2;have H':=ka H;clear H;go_enter Try.func26,Try.ntmps26
  go_wp2_with (first|((with_reducible refine gate_dst (N:=1) rfl ?_);refine kx (N:=1) (cs:=#[.slice A0_0 l0_0.length c0_0,.bool a0_1]) (t:=34) ?_;intro o hg J hbox hb;have q:=ka (below_step (kw HB.out) hb);have r:=ka (hbox);have p:=ka ((by rw [hg];exact (below_size (kw HB.out)) : w.heap.size≤o));have s:=p;clear HB;have HB:=q;have b:=r;have u:=p;have l:=s;clear q r p s;clear hb hbox hg;have A:=blkAll2 b.out))
  (try simp only [Act.put,List.setIfInBounds_toArray,List.set_cons_zero,List.set_cons_succ]);go_loopg [4,5] k (fun kq F G w'=>∃ (x4_1 : Int) (x5_1 : Int),F = .int .u64 x4_1∧G = .int .i64 x5_1∧Aside0 (trivetref01_To.l0 kq x4_1 x5_1 l0_0 a0_1 = some (r1,r2))∧Aside0 (kq≤k)∧Aside0 (w'.heap[o]? = some (.cells #[(.slice A0_0 l0_0.length c0_0),.bool a0_1] 34 (0,0)))∧Aside0 (Below w.heap.size w w'))
  case atStart=>exact ⟨(0),(wrap64 ((l0_0.length : Int) - 1)),(by first|rfl|(simp;done)|(simp [*];done)),(by first|rfl|(simp;done)|(simp [*];done)),H',⟨Nat.le_refl _⟩,⟨by (with_reducible repeat (first|apply kb1|apply kb2|apply kb3));exact b.out⟩,⟨by repeat (first|(with_reducible first|exact HB.out|apply kc1|apply kc2|apply kc3|refine kc4 ?_ l.out)|exact HB.out)⟩⟩
  case round=>
   clear H';try clear c2
   try clear c2b0
   try clear c2b1
   try clear p2
   try clear p6
   try clear y
   try clear A
   obtain ⟨x4_1,x5_1,rfl,rfl,HA,HK1,b,HB⟩:=hrel;cases gk with
   | zero=>exact absurd HA.out (by simp [trivetref01_To.l0])
   | succ k1=>
    have H:=HA.out;clear HA;simp only [trivetref01_To.l0] at H
    by_cases c7 : x5_1 ≥ 0
    ·rw [if_pos c7] at H
     have c7b0 : decide (0≤x5_1) = true:=decide_eq_true c7;clear c7;by_cases c8 : 0≤x5_1
     ·rw [if_pos c8] at H
      have c8b0 : decide (0≤x5_1) = true:=decide_eq_true c8;clear c8;by_cases c9 : x5_1 < (l0_0.length : Int)
      ·rw [if_pos c9] at H
       have c9b0 : decide (x5_1 < (l0_0.length : Int)) = true:=decide_eq_true c9;clear c9;have H':=ka H;clear H;have B:=blkAll2 b.out;have p646 : 0≤(x5_1 : Int):=of_decide_eq_true (by first|(with_reducible assumption)|assumption);have q646 : x5_1 < (l0_0.length : Int):=of_decide_eq_true (by first|(with_reducible assumption)|assumption);obtain ⟨ad646,e646,hx646_0⟩:=Kd.at_int HR0_0.out x5_1 p646 q646;cases e646
       replace hx646_0:=(HB.out.cell (World.block_lt_of_cell? w _ hx646_0)).trans hx646_0;replace p646:=eq_true p646;replace q646:=eq_true q646;go_wp2
       go_roundg k1
       case measure=>have:=HK1.out;omega
       case rel=>exact ⟨(IntKind.u64.wrap ((IntKind.u64.wrap (x4_1 * 65536)) + (rd l0_0 x5_1))),(wrap64 (x5_1 - 1)),(by first|rfl|(simp;done)|(simp [*];done)),(by first|rfl|(simp;done)|(simp [*];done)),H',⟨by have:=HK1.out;omega⟩,⟨by (with_reducible repeat (first|apply kb1|apply kb2|apply kb3));exact b.out⟩,⟨by repeat (first|(with_reducible first|exact HB.out|apply kc1|apply kc2|apply kc3|refine kc4 ?_ l.out)|exact HB.out)⟩⟩
      ·rw [if_neg c9] at H
       exact absurd H (by simp)
     ·rw [if_neg c8] at H
      exact absurd H (by simp)
    ·rw [if_neg c7] at H
     have c7b0 : decide (0≤x5_1) = false:=decide_eq_false c7;clear c7;by_cases c11 : a0_1 = true
     ·subst c11;have H1 : (some (wrap64 (IntKind.u64.wrap ((Go.bits .xor .u64 18446744073709551615 x4_1) + 1)),decide (x4_1≤9223372036854775808))) = some (r1,r2):=by rw [if_pos rfl] at H;exact H
      clear H;have H:=H1;clear H1;simp only [Option.some.injEq,Prod.mk.injEq] at H
      obtain ⟨rfl,rfl⟩:=H;have D:=blkAll2 b.out;go_wp2
      go_ret2
      exact ⟨by first|rfl|(simp [errW_none,errW_some] <;> rfl)|(simp [*,errW_none,errW_some] <;> rfl),by repeat (first|(with_reducible first|exact HB.out|apply kc1|apply kc2|apply kc3|refine kc4 ?_ l.out)|exact HB.out)⟩
     ·replace c11:=Bool.eq_false_iff.mpr c11;subst c11;have H1 : (some (wrap64 (x4_1),decide (x4_1 < 9223372036854775808))) = some (r1,r2):=by rw [if_neg (show ¬ (false = true) by decide)] at H;exact H
      clear H;have H:=H1;clear H1;simp only [Option.some.injEq,Prod.mk.injEq] at H
      obtain ⟨rfl,rfl⟩:=H;have E:=blkAll2 b.out;go_wp2
      go_ret2
      exact ⟨by first|rfl|(simp [errW_none,errW_some] <;> rfl)|(simp [*,errW_none,errW_some] <;> rfl),by repeat (first|(with_reducible first|exact HB.out|apply kc1|apply kc2|apply kc3|refine kc4 ?_ l.out)|exact HB.out)⟩

/-! ### trivetref01_To: function 26,its laws -/
theorem trivetref01_To.loop (i : Nat) : ∀ (k : Nat) (d : List Int) (m : Bool),U.Dg d→d.length≤4→i≤d.length→i < k→trivetref01_To.l0 k (U.val (d.drop i)) ((i : Int) - 1) d m = trivetref01_To.l0 (k - i) (U.val d) (-1) d m:=by
 induction i with
 | zero=>intro k d m hd h4 hi hk;rfl
 | succ i ih=>
  intro k d m hd h4 hi hk;obtain ⟨j,rfl⟩ : ∃ j,k = j + 1:=⟨k - 1,by omega⟩
  have hv : U.val (d.drop (i + 1)) < 281474976710656:=by
   have:=U.val_lt (d:=d.drop (i + 1)) (fun x hx=>hd x (List.mem_of_mem_drop hx));have hl : (d.drop (i + 1)).length≤3:=by simp;omega
   have : (65536 : Int) ^ (d.drop (i + 1)).length≤65536 ^ 3:=U.pow_le hl;have e3 : (65536 : Int) ^ 3 = 281474976710656:=by decide
   omega
  have hv0:=U.val_nonneg (d:=d.drop (i + 1)) (fun x hx=>hd x (List.mem_of_mem_drop hx));have hg:=hd.get i;have hs:=U.drop_step d i;have hr : rd d ((i + 1 : Nat) - 1 : Int) = d.getD i 0:=by unfold rd;congr 1;omega
  generalize hV : U.val (d.drop (i + 1)) = v at *;generalize hG : d.getD i 0 = g at *
  have key : trivetref01_To.l0 (j + 1) v ((i + 1 : Nat) - 1 : Int) d m = trivetref01_To.l0 j (U.val (d.drop i)) ((i : Int) - 1) d m:=by
   simp only [trivetref01_To.l0]
   rw [if_pos (show ((i + 1 : Nat) - 1 : Int) ≥ 0 by omega),if_pos (show 0≤((i + 1 : Nat) - 1 : Int) by omega),if_pos (show ((i + 1 : Nat) - 1 : Int) < (d.length : Int) by omega),hr,M.wrapu_id (n:=v * 65536) (by omega) (by omega),M.wrapu_id (n:=v * 65536 + g) (by omega) (by omega),M.w64_id (by omega) (by omega),hs]
   congr 1 <;> omega
  rw [key,ih j d m hd h4 (by omega) (by omega)]
  congr 1
  omega
theorem trivetref01_To.num (k : Nat) (z : Int) (hk : 12≤k) (hz : M.abs z < 65536 ^ 64) : ∃ v,trivetref01_To.f k (U.num z).1 (U.num z).2 = some (v,decide (M.In z))∧(M.In z→v = z):=by
 have a0:=U.abs_nonneg z;have e4 : (65536 : Int) ^ 4 = 18446744073709551616:=by decide
 have hd:=U.dig_dg (M.abs z);have hv:=U.val_dig a0;unfold U.num trivetref01_To.f
 have a1 : M.abs z = z∧0≤z∨M.abs z = -z∧z < 0:=by unfold M.abs;split <;> omega
 by_cases h : (((U.dig (M.abs z)).length : Nat) : Int) > 4
 ·rw [if_pos h]
  have : ¬ M.abs z < 65536 ^ 4:=fun g=>by have:=U.len_dig 4 _ g;omega
  refine ⟨0,?_,?_⟩
  ·congr 2
   rw [decide_eq_false]
   unfold M.In;omega
  ·unfold M.In;omega
 ·rw [if_neg h]
  have hl : (U.dig (M.abs z)).length≤4:=by omega
  have hlt:=U.val_lt hd;rw [hv] at hlt
  have : (65536 : Int) ^ (U.dig (M.abs z)).length≤65536 ^ 4:=U.pow_le hl;have key:=trivetref01_To.loop (U.dig (M.abs z)).length k (U.dig (M.abs z)) (decide (z < 0)) hd hl (Nat.le_refl _) (by omega);rw [List.drop_length,hv] at key
  have hw : wrap64 (((U.dig (M.abs z)).length : Int) - 1) = ((U.dig (M.abs z)).length : Int) - 1:=M.w64_id (by omega) (by omega);rw [hw]
  simp only [U.val] at key
  rw [key]
  obtain ⟨j,hj⟩ : ∃ j,k - (U.dig (M.abs z)).length = j + 1:=⟨k - (U.dig (M.abs z)).length - 1,by omega⟩
  rw [hj]
  simp only [trivetref01_To.l0]
  rw [if_neg (by decide)]
  by_cases hz0 : z < 0
  ·rw [if_pos (decide_eq_true hz0)]
   refine ⟨_,congrArg some (Prod.ext rfl (decide_eq_decide.mpr (by unfold M.In;omega))),?_⟩;intro hin;unfold M.In at hin
   rw [M.xor_all _ (by omega) (by omega),M.wrapu]
   unfold wrap64
   omega
  ·rw [if_neg (by simpa using hz0)]
   refine ⟨_,congrArg some (Prod.ext rfl (decide_eq_decide.mpr (by unfold M.In;omega))),?_⟩;intro hin;unfold M.In at hin
   rw [M.w64_id (by omega) (by omega)]
   omega

end Go.Proofs.Ytcpmfdagnchlbaa.P
