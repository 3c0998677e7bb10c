-- Written by a program of this session out of the translation of the seat: Lean functions and the proofs that the Go functions come to them.
import Derived.Test.YtghimjkoaldafaaPx0
import Derived.Test.YtghimjkoaldafaaPx6
import Derived.Test.YtghimjkoaldafaaPx7
namespace Go.Proofs.Ytghimjkoaldafaa.P
open Go.RowKit Go.Proofs.YtghimjkoaldafaaW.PrintWords Go.Proofs.YtghimjkoaldafaaW.PrintLast Go.Proofs.YtghimjkoaldafaaW.PrintMore
open Go.IntKind renaming u64 → aa
open Go.Proofs.Ytghimjkoaldafaa.P.U renaming val → ab, dig → ad, dig_dg → ai, val_dig → ak, drop_step → an, val_lt → ao, len_dig → ap, val_append → aq, val_nonneg → ar, Dg → av
open Go.Proofs.Ytghimjkoaldafaa.P.trivetref01_Mul renaming l1 → ac, l0 → af, f → aj
open Go.Proofs.YtghimjkoaldafaaW.PrintWords renaming below_size → ae
open Nat renaming le_trans → ag, le_refl → au
open Option renaming bind_some → ah, bind_eq_some_iff → al
set_option maxHeartbeats 8000000
set_option maxRecDepth 100000
attribute [local go_sem] max2_int min2_int max_two min_two max_three min_three max_four min_four   -- for this text's walks alone
set_option linter.unusedVariables false
set_option linter.unusedSimpArgs false
theorem trivetref01_Mul.row (n : Nat) : ∀ (k : Nat) (a b out row : List Int) (c : Int) (i j : Nat) (am bm : Bool),av a→av b→av row→0≤c∧c < 65536→i < a.length→a.length≤1000→b.length = j + n→b.length≤1000→row.length = i + j→
  ∃ row',ac (k + n + 1) out i row c j a am b bm = (trivetref01_plus.f k out row').bind (fun t=>af k t ((i + 1 : Nat) : Int) a am b bm)∧av row'∧ab row' = ab row + 65536 ^ (i + j) * (c + a.getD i 0 * ab (b.drop j))∧row'.length = i + b.length + 1:=by
 induction n with
 | zero=>
  intro k a b out row c i j am bm ha hb hr hc hi la lb lb2 hl;refine ⟨row ++ [c],?_,hr.add (U.Dg.one hc),?_,by simp;omega⟩
  ·rw [Nat.add_zero]
   simp only [ac]
   rw [if_neg (by omega),if_pos (by omega),M.w64_id (n:=(i : Int) + 1) (by omega) (by omega)]
   rfl
  ·rw [aq,U.val_one,hl,List.drop_eq_nil_of_le (by omega)]
   simp [ab]
 | succ n ih=>
  intro k a b out row c i j am bm ha hb hr hc hi la lb lb2 hl;have ga:=ha.get i;have gb:=hb.get j;have hp0 : 0≤a.getD i 0 * b.getD j 0:=Int.mul_nonneg ga.1 gb.1;have hp1 : a.getD i 0 * b.getD j 0≤65535 * 65535:=Int.mul_le_mul (by omega) (by omega) gb.1 (by decide);have ih':=fun q r=>ih k a b out (row ++ [r]) q i (j + 1) am bm ha hb
  have e : ac (k + (n + 1) + 1) out i row c j a am b bm = ac (k + n + 1) out i (row ++ [(a.getD i 0 * b.getD j 0 + c) % 65536]) ((a.getD i 0 * b.getD j 0 + c) / 65536) ((j + 1 : Nat) : Int) a am b bm:=by
   have ra : rd a (i : Int) = a.getD i 0:=rfl;have rb : rd b (j : Int) = b.getD j 0:=rfl;rw [show k + (n + 1) + 1 = (k + n + 1) + 1 by omega]
   conv=>lhs;simp only [ac]
   rw [if_pos (by omega),if_pos (by omega),if_pos (by omega),if_pos (by omega),if_pos (by omega),ra,rb]
   generalize a.getD i 0 * b.getD j 0 = p at *;rw [M.wrapu_id (n:=p) (by omega) (by omega),M.wrapu_id (n:=p + c) (by omega) (by omega),M.tdivu (show 0≤p + c by omega),M.tmodu (show 0≤p + c by omega),M.wrapu_id (n:=(p + c) / 65536) (by omega) (by omega),M.w64_id (n:=(j : Int) + 1) (by omega) (by omega)]
   rfl
  obtain ⟨row',r1,r2,r3,r4⟩:=ih' ((a.getD i 0 * b.getD j 0 + c) / 65536) ((a.getD i 0 * b.getD j 0 + c) % 65536) (hr.add (U.Dg.one (by omega))) (by omega) hi la (by omega) lb2 (by simp;omega);refine ⟨row',by rw [e,r1],r2,?_,r4⟩;rw [r3,aq,U.val_one,hl,show i + (j + 1) = (i + j) + 1 by omega,U.pow_succ,an b j,Int.mul_add (a.getD i 0)]
  generalize a.getD i 0 * b.getD j 0 = p at *;have hm : a.getD i 0 * (65536 * ab (b.drop (j + 1))) = 65536 * (a.getD i 0 * ab (b.drop (j + 1))):=by rw [← Int.mul_assoc,Int.mul_comm _ 65536,Int.mul_assoc]
  rw [hm]
  generalize a.getD i 0 * ab (b.drop (j + 1)) = u;have : c + (p + 65536 * u) = (p + c) % 65536 + 65536 * ((p + c) / 65536 + u):=by omega
  rw [this]
  generalize (p + c) % 65536 = r;generalize (p + c) / 65536 + u = s;generalize (65536 : Int) ^ (i + j) = z;rw [Int.mul_add,Int.mul_comm 65536 z,Int.mul_assoc,Int.add_assoc]
theorem trivetref01_Mul.loop (n : Nat) : ∀ (k : Nat) (a b out : List Int) (i : Nat) (am bm : Bool),av a→av b→av out→a.length = i + n→a.length≤100→b.length≤100→out.length≤i + b.length + 1→n * 110 + 2000≤k→
  ∃ d,af k out i a am b bm = trivetref01_norm.f (k - 1 - n * (b.length + 2)) d (!(am == bm))∧av d∧ab d = ab out + 65536 ^ i * (ab (a.drop i) * ab b)∧d.length≤a.length + b.length + 1:=by
 induction n with
 | zero=>
  intro k a b out i am bm ha hb ho la la2 lb lo hk;obtain ⟨j,rfl⟩ : ∃ j,k = j + 1:=⟨k - 1,by omega⟩
  refine ⟨out,?_,ho,?_,by omega⟩
  ·simp only [af]
   rw [if_neg (by omega),show j + 1 - 1 - 0 * (b.length + 2) = j by omega]
   cases trivetref01_norm.f j out (!(am == bm)) <;> rfl
  ·rw [List.drop_eq_nil_of_le (by omega)];simp [ab]
 | succ n ih=>
  intro k a b out i am bm ha hb ho la la2 lb lo hk;obtain ⟨j,rfl⟩ : ∃ j,k = (j + b.length + 1) + 1:=⟨k - b.length - 2,by omega⟩
  obtain ⟨row,r1,r2,r3,r4⟩:=trivetref01_Mul.row b.length j a b out (List.replicate i 0) 0 i 0 am bm ha hb (U.Dg.zeros i) (by decide) (by omega) (by omega) (by omega) (by omega) (by simp);obtain ⟨t,t1,t2,t3,t4⟩:=trivetref01_plus.num j out row ho r2 (by omega) (by omega) (by omega);obtain ⟨d,d1,d2,d3,d4⟩:=ih j a b t (i + 1) am bm ha hb t2 (by omega) la2 lb (by omega) (by omega);have r1' : ac (j + b.length + 1) out i (List.replicate i 0) 0 0 a am b bm = _:=r1;refine ⟨d,?_,d2,?_,d4⟩
  ·conv=>lhs;simp only [af]
   rw [if_pos (by omega),if_pos (by omega),if_pos (by omega),show ((i : Int)).toNat = i from rfl,r1',t1,ah,d1]
   congr 1
   rw [Nat.add_mul]
   omega
  ·rw [d3,t3,r3,U.val_zeros,an a i,U.pow_succ]
   simp only [Nat.add_zero,Int.zero_add,List.drop_zero]
   generalize a.getD i 0 = x;generalize ab (a.drop (i + 1)) = u;generalize ab b = v;generalize (65536 : Int) ^ i = p;rw [Int.add_mul,Int.mul_add,Int.add_assoc,Int.mul_comm 65536 p,Int.mul_assoc p 65536,Int.mul_assoc 65536 u]
theorem trivetref01_Mul.num (k : Nat) (x y : Int) (hx : M.abs x < 65536 ^ 32) (hy : M.abs y < 65536 ^ 32) (hk : 6000≤k) : aj k (U.num x).1 (U.num x).2 (U.num y).1 (U.num y).2 = some (U.num (x * y)):=by
 have lx:=ap 32 _ hx;have ly:=ap 32 _ hy;have x0:=U.abs_nonneg x;have y0:=U.abs_nonneg y;have vx:=ak x0;have vy:=ak y0;have hmul : (ad (M.abs x)).length * ((ad (M.abs y)).length + 2)≤32 * 34:=Nat.mul_le_mul lx (by omega);obtain ⟨d,d1,d2,d3,d4⟩:=trivetref01_Mul.loop (ad (M.abs x)).length k (ad (M.abs x)) (ad (M.abs y)) [] 0 (decide (x < 0)) (decide (y < 0)) (ai _) (ai _) U.Dg.nil (by omega) (by omega) (by omega) (by simp) (by omega);have d1' : af k [] 0 (ad (M.abs x)) (decide (x < 0)) (ad (M.abs y)) (decide (y < 0)) = _:=d1;show aj k (ad (M.abs x)) (decide (x < 0)) (ad (M.abs y)) (decide (y < 0)) = _
 unfold aj
 rw [d1',trivetref01_norm.num _ d _ (x * y) d2 (by omega) (by omega)]
 ·rw [d3,List.drop_zero,vx,vy]
  unfold M.abs
  by_cases c : x < 0 <;> by_cases c2 : y < 0 <;> simp [c,c2,ab,Int.neg_mul,Int.mul_neg]
def trivetref01_less.l0 : Nat→List Int→List Int→Int→Option (Bool)
 | 0,_,_,_=>none
 | k + 1,x0,x1,x5=>if x5 ≥ 0 then (if 0≤x5 then (if x5 < (x0.length : Int) then (if x5 < (x1.length : Int) then (if (rd x0 x5) = (rd x1 x5) then (trivetref01_less.l0 k x0 x1 (wrap64 (x5 - 1))) else (some (decide ((rd x0 x5) < (rd x1 x5))))) else (none)) else (none)) else (none)) else (some false)
def trivetref01_less.f (k : Nat) (l0 : List Int) (l1 : List Int) : Option (Bool):=if (l0.length : Int) = (l1.length : Int) then (trivetref01_less.l0 k l0 l1 (wrap64 ((l0.length : Int) - 1))) else (some (decide ((l0.length : Int) < (l1.length : Int))))
theorem trivetref01_less.calls (k : Nat) (J : Option Addr) (c0 : Nat) (l0 : List Int) (K : Option Addr) (c1 : Nat) (l1 : List Int) (r : Bool) (w : World) (hr0 : Kd.C (Kd.int .u64) w J l0.length l0) (hc0 : l0.length≤c0) (hr1 : Kd.C (Kd.int .u64) w K l1.length l1) (hc1 : l1.length≤c1) (h : trivetref01_less.f k l0 l1 = some r) :
  Calls Try.prog 41 #[.slice J l0.length c0,.slice K l1.length c1] w fun e w'=>e = .returned (.bool r)∧Drawn0 w w':=by
 have HR0:=ka hr0;have a1:=ka hc0;clear hr0 hc0;have HR1:=ka hr1;have I:=ka hc1;clear hr1 hc1;have H : (if (l0.length : Int) = (l1.length : Int) then (trivetref01_less.l0 k l0 l1 (wrap64 ((l0.length : Int) - 1))) else (some (decide ((l0.length : Int) < (l1.length : Int))))) = some r:=h;clear h;by_cases c3 : (l0.length : Int) = (l1.length : Int)
 ·rw [if_pos c3] at H
  have c3b0 : ((l0.length : Int) == (l1.length : Int)) = true:=beq_iff_eq.mpr c3;have c3b1 : ((l0.length : Int) != (l1.length : Int)) = false:=bne_eq_false_iff_eq.mpr c3;have c3b2 : (l0.length == l1.length) = true:=by first|simpa using c3|(simp at c3 ⊢;omega)
  clear c3;have H':=ka H;clear H;go_enter Try.func41,Try.ntmps41
  go_wp2
  repeat (go_quiet (fail);try go_wp2)
  (try simp only [Act.put,List.setIfInBounds_toArray,List.set_cons_zero,List.set_cons_succ]);go_loopg [5] k (fun kq Y w'=>∃ (x5_1 : Int),Y = .int .i64 x5_1∧Aside0 (trivetref01_less.l0 kq l0 l1 x5_1 = some r)∧Aside0 (kq≤k)∧Drawn0 w w')
  case atStart=>exact ⟨(wrap64 ((l0.length : Int) - 1)),(by first|rfl|(simp;done)|(simp [*];done)),H',⟨au _⟩,by repeat (first|exact Drawn0.refl _|apply Drawn0.step)⟩
  case round=>
   clear H';try clear c1
   try clear c3
   try clear c3b0
   try clear c3b1
   try clear c3b2
   obtain ⟨x5_1,rfl,HA,HK1,⟨m1,rfl⟩⟩:=hrel;cases gk with
   | zero=>exact absurd HA.out (by simp [trivetref01_less.l0])
   | succ k1=>
    have H:=HA.out;clear HA;simp only [trivetref01_less.l0] at H
    by_cases c4 : x5_1 ≥ 0
    ·rw [if_pos c4] at H
     have c4b0 : decide (0≤x5_1) = true:=decide_eq_true c4;clear c4;by_cases c5 : 0≤x5_1
     ·rw [if_pos c5] at H
      have c5b0 : decide (0≤x5_1) = true:=decide_eq_true c5;clear c5;by_cases c6 : x5_1 < (l0.length : Int)
      ·rw [if_pos c6] at H
       have c6b0 : decide (x5_1 < (l0.length : Int)) = true:=decide_eq_true c6;clear c6;by_cases c7 : x5_1 < (l1.length : Int)
       ·rw [if_pos c7] at H
        have c7b0 : decide (x5_1 < (l1.length : Int)) = true:=decide_eq_true c7;clear c7;by_cases c8 : (rd l0 x5_1) = (rd l1 x5_1)
        ·rw [if_pos c8] at H
         have c8b0 : ((rd l0 x5_1) == (rd l1 x5_1)) = true:=beq_iff_eq.mpr c8;have c8b1 : ((rd l0 x5_1) != (rd l1 x5_1)) = false:=bne_eq_false_iff_eq.mpr c8;clear c8;have H':=ka H;clear H;have p526 : 0≤(x5_1 : Int):=of_decide_eq_true (by first|(with_reducible assumption)|assumption);have q526 : x5_1 < (l0.length : Int):=of_decide_eq_true (by first|(with_reducible assumption)|assumption);obtain ⟨ad526,e526,hx526_0⟩:=Kd.at_int HR0.out x5_1 p526 q526;cases e526
         replace p526:=eq_true p526;replace q526:=eq_true q526;have p527 : 0≤(x5_1 : Int):=of_decide_eq_true (by first|(with_reducible assumption)|assumption);have q527 : x5_1 < (l1.length : Int):=of_decide_eq_true (by first|(with_reducible assumption)|assumption);obtain ⟨ad527,e527,hx527_0⟩:=Kd.at_int HR1.out x5_1 p527 q527;cases e527
         replace p527:=eq_true p527;replace q527:=eq_true q527;go_wp2
         repeat (go_quiet (fail);try go_wp2)
         go_roundg k1
         case measure=>have:=HK1.out;omega
         case rel=>exact ⟨(wrap64 (x5_1 - 1)),(by first|rfl|(simp;done)|(simp [*];done)),H',⟨by have:=HK1.out;omega⟩,by repeat (first|exact Drawn0.refl _|apply Drawn0.step)⟩
        ·rw [if_neg c8] at H
         have c8b0 : ((rd l0 x5_1) == (rd l1 x5_1)) = false:=beq_eq_false_iff_ne.mpr c8;have c8b1 : ((rd l0 x5_1) != (rd l1 x5_1)) = true:=bne_iff_ne.mpr c8;obtain rfl:=Option.some.inj H;have p526 : 0≤(x5_1 : Int):=of_decide_eq_true (by first|(with_reducible assumption)|assumption);have q526 : x5_1 < (l0.length : Int):=of_decide_eq_true (by first|(with_reducible assumption)|assumption);obtain ⟨ad526,e526,hx526_0⟩:=Kd.at_int HR0.out x5_1 p526 q526;cases e526
         replace p526:=eq_true p526;replace q526:=eq_true q526;have p527 : 0≤(x5_1 : Int):=of_decide_eq_true (by first|(with_reducible assumption)|assumption);have q527 : x5_1 < (l1.length : Int):=of_decide_eq_true (by first|(with_reducible assumption)|assumption);obtain ⟨ad527,e527,hx527_0⟩:=Kd.at_int HR1.out x5_1 p527 q527;cases e527
         replace p527:=eq_true p527;replace q527:=eq_true q527;have p528 : 0≤(x5_1 : Int):=of_decide_eq_true (by first|(with_reducible assumption)|assumption);have q528 : x5_1 < (l0.length : Int):=of_decide_eq_true (by first|(with_reducible assumption)|assumption);obtain ⟨ad528,e528,hx528_0⟩:=Kd.at_int HR0.out x5_1 p528 q528;obtain rfl : ad526 = ad528:=(by injection e528)
         replace p528:=eq_true p528;replace q528:=eq_true q528;have p529 : 0≤(x5_1 : Int):=of_decide_eq_true (by first|(with_reducible assumption)|assumption);have q529 : x5_1 < (l1.length : Int):=of_decide_eq_true (by first|(with_reducible assumption)|assumption);obtain ⟨ad529,e529,hx529_0⟩:=Kd.at_int HR1.out x5_1 p529 q529;obtain rfl : ad527 = ad529:=(by injection e529)
         replace p529:=eq_true p529;replace q529:=eq_true q529;go_wp2
         repeat (go_quiet (fail);try go_wp2)
         go_ret
         exact ⟨by first|rfl|(simp;done)|(simp [*];done),by repeat (first|exact Drawn0.refl _|apply Drawn0.step)⟩
       ·rw [if_neg c7] at H
        exact absurd H (by simp)
      ·rw [if_neg c6] at H
       exact absurd H (by simp)
     ·rw [if_neg c5] at H
      exact absurd H (by simp)
    ·rw [if_neg c4] at H
     have c4b0 : decide (0≤x5_1) = false:=decide_eq_false c4;clear c4;obtain rfl:=Option.some.inj H;go_wp2
     repeat (go_quiet (fail);try go_wp2)
     go_ret
     exact ⟨by first|rfl|(simp;done)|(simp [*];done),by repeat (first|exact Drawn0.refl _|apply Drawn0.step)⟩
 ·rw [if_neg c3] at H
  have c3b0 : ((l0.length : Int) == (l1.length : Int)) = false:=beq_eq_false_iff_ne.mpr c3;have c3b1 : ((l0.length : Int) != (l1.length : Int)) = true:=bne_iff_ne.mpr c3;have c3b2 : (l0.length == l1.length) = false:=by first|simpa using c3|(simp at c3 ⊢;omega)
  obtain rfl:=Option.some.inj H;go_enter Try.func41,Try.ntmps41
  go_wp2
  repeat (go_quiet (fail);try go_wp2)
  go_ret
  exact ⟨by first|rfl|(simp;done)|(simp [*];done),by repeat (first|exact Drawn0.refl _|apply Drawn0.step)⟩
theorem trivetref01_less.loop (i : Nat) : ∀ (k : Nat) (a b : List Int),av a→av b→a.length = b.length→i≤a.length→(i : Int) < 1000000→i < k→trivetref01_less.l0 k a b ((i : Int) - 1) = some (decide (ab (a.take i) < ab (b.take i))):=by
 induction i with
 | zero=>
  intro k a b ha hb hl hi hm hk;obtain ⟨j,rfl⟩ : ∃ j,k = j + 1:=⟨k - 1,by omega⟩
  simp only [trivetref01_less.l0]
  rw [if_neg (by omega)]
  simp [ab]
 | succ i ih=>
  intro k a b ha hb hl hi hm hk;obtain ⟨j,rfl⟩ : ∃ j,k = j + 1:=⟨k - 1,by omega⟩
  have ra : rd a ((i + 1 : Nat) - 1 : Int) = a.getD i 0:=by unfold rd;congr 1;omega
  have rb : rd b ((i + 1 : Nat) - 1 : Int) = b.getD i 0:=by unfold rd;congr 1;omega
  have va:=ao (d:=a.take i) (fun x hx=>ha x (List.mem_of_mem_take hx));have vb:=ao (d:=b.take i) (fun x hx=>hb x (List.mem_of_mem_take hx));have va0:=ar (d:=a.take i) (fun x hx=>ha x (List.mem_of_mem_take hx));have vb0:=ar (d:=b.take i) (fun x hx=>hb x (List.mem_of_mem_take hx));rw [List.length_take,show min i a.length = i by omega] at va
  rw [List.length_take,show min i b.length = i by omega] at vb
  have ih':=ih j a b ha hb hl (by omega) (by omega) (by omega);simp only [trivetref01_less.l0]
  rw [if_pos (show ((i + 1 : Nat) - 1 : Int) ≥ 0 by omega),if_pos (show 0≤((i + 1 : Nat) - 1 : Int) by omega),if_pos (show ((i + 1 : Nat) - 1 : Int) < a.length by omega),if_pos (show ((i + 1 : Nat) - 1 : Int) < b.length by omega),ra,rb,U.take_succ a i (by omega),U.take_succ b i (by omega)]
  rw [M.w64_id (n:=((i + 1 : Nat) - 1 : Int) - 1) (by omega) (by omega),show ((i + 1 : Nat) - 1 : Int) - 1 = (i : Int) - 1 by omega,ih']
  generalize a.getD i 0 = x at *;generalize b.getD i 0 = y at *;generalize ab (a.take i) = u at *;generalize ab (b.take i) = v at *;have hp:=U.pow_pos i;generalize (65536 : Int) ^ i = p at *;by_cases h : x = y
  ·rw [if_pos h,h];congr 1;apply decide_eq_decide.mpr;omega
  ·rw [if_neg h]
   congr 1
   apply decide_eq_decide.mpr
   constructor
   ·intro hxy;have h1:=Int.mul_le_mul_of_nonneg_left (show x + 1≤y by omega) (Int.le_of_lt hp);rw [Int.mul_add] at h1
    omega
   ·intro hv;refine Classical.byContradiction fun hn=>?_
    have h1:=Int.mul_le_mul_of_nonneg_left (show y + 1≤x by omega) (Int.le_of_lt hp);rw [Int.mul_add] at h1
    omega
theorem trivetref01_less.num (k : Nat) (x y : Int) (hx : 0≤x) (hy : 0≤y) (lx : (ad x).length≤1000) (ly : (ad y).length≤1000) (hk : (ad x).length + 2≤k) : trivetref01_less.f k (ad x) (ad y) = some (decide (x < y)):=by
 unfold trivetref01_less.f
 have ax:=ak hx;have ay:=ak hy;by_cases h : (ad x).length = (ad y).length
 ·rw [if_pos (by omega)]
  have hw : wrap64 (((ad x).length : Int) - 1) = ((ad x).length : Int) - 1:=M.w64_id (by omega) (by omega);rw [hw,trivetref01_less.loop _ k _ _ (ai x) (ai y) h (au _) (by omega) (by omega),List.take_length,h,List.take_length,ax,ay]
 ·rw [if_neg (by omega)]
  congr 1
  apply decide_eq_decide.mpr
  constructor
  ·intro hl;refine Classical.byContradiction fun hn=>?_
   have h1:=ao (ai x);rw [ax] at h1
   have:=ap (ad x).length y (by omega);omega
  ·intro hl;refine Classical.byContradiction fun hn=>?_
   have h1:=ao (ai y);rw [ay] at h1
   have:=ap (ad y).length x (by omega);omega
@[go_sem] theorem fieldAgg51_0 (x0 x1 : Value) (w : World) : (Instr.field 51 (.agg #[x0,x1]) 0).run Try.prog w = .ok x0 w:=by
 have h1 : (isAgg 49).run Try.prog w = .ok false w:=by simp [isAgg,run_underlying Try.underlying49]
 simp [Instr.field,run_underlying Try.underlying51,asAgg,part,h1]
def trivetref01_minus.l0 : Nat→List Int→List Int→List Int→Int→Int→Option (List Int)
 | 0,_,_,_,_,_=>none
 | k + 1,x0,x1,x5,x6,x7=>if x7 < (x0.length : Int) then (if 0≤x7 then ((trivetref01_at.f x1 x7).bind fun l=>(if x5.length < 17592186044416 then (trivetref01_minus.l0 k x0 x1 (x5 ++ [Int.tmod (aa.wrap ((aa.wrap ((aa.wrap (65536 + (rd x0 x7))) - l)) - x6)) 65536]) (aa.wrap (1 - (aa.wrap (Int.tdiv (aa.wrap ((aa.wrap ((aa.wrap (65536 + (rd x0 x7))) - l)) - x6)) 65536)))) (wrap64 (x7 + 1))) else (none))) else (none)) else ((trivetref01_norm.f k x5 false).bind fun S=>(some S.1))
def trivetref01_minus.f (k : Nat) (l0 : List Int) (l1 : List Int) : Option (List Int):=trivetref01_minus.l0 k l0 l1 ([] : List Int) 0 0
theorem trivetref01_minus.calls (k : Nat) (J : Option Addr) (c0 : Nat) (l0 : List Int) (K : Option Addr) (c1 : Nat) (l1 : List Int) (r : List Int) (w : World) (hr0 : Kd.C (Kd.int .u64) w J l0.length l0) (hc0 : l0.length≤c0) (hr1 : Kd.C (Kd.int .u64) w K l1.length l1) (hc1 : l1.length≤c1) (h : trivetref01_minus.f k l0 l1 = some r) :
  Calls Try.prog 42 #[.slice J l0.length c0,.slice K l1.length c1] w fun e w'=>∃ v0_ : Value,e = .returned (v0_)∧Kd.V (Kd.int .u64) 60 w' w.heap.size (fun m=>(w.heap.size≤m)) v0_ r∧Below w.heap.size w w':=by
 have HR0:=ka hr0;have a1:=ka hc0;clear hr0 hc0;have HR1:=ka hr1;have I:=ka hc1;clear hr1 hc1;have HB:=ka (Below.refl w.heap.size w);have H : (trivetref01_minus.l0 k l0 l1 ([] : List Int) 0 0) = some r:=h;clear h;have H':=ka H;clear H;go_enter Try.func42,Try.ntmps42
 go_wp2
 repeat (go_quiet (fail);try go_wp2)
 (try simp only [Act.put,List.setIfInBounds_toArray,List.set_cons_zero,List.set_cons_succ]);go_loopg [5,6,7] k (fun kq Y v6 v7 w'=>∃ (x5_1 : List Int) (x6_1 : Int) (x7_1 : Int),v6 = .int .u64 x6_1∧v7 = .int .i64 x7_1∧Aside0 (trivetref01_minus.l0 kq l0 l1 x5_1 x6_1 x7_1 = some r)∧Aside0 (kq≤k)∧Aside0 (Kd.R (Kd.int .u64) 60 w' w.heap.size (fun m=>(w.heap.size≤m)) Y x5_1)∧Aside0 (Below w.heap.size w w'))
 case atStart=>exact ⟨(([] : List Int)),(0),(0),(by first|rfl|(simp;done)|(simp [*];done)),(by first|rfl|(simp;done)|(simp [*];done)),H',⟨au _⟩,⟨by first|exact Kd.R_nil _ _ _ _ _|exact Kd.N_nil _ _ _ _ _|exact Kd.V_nil _ _ _ _ _|exact Kd.Q_nil _ _ _ _ _|exact Kd.S_nil _ _ _ _ _⟩,⟨by repeat (first|(with_reducible first|exact HB.out|apply kc1|apply kc2|apply kc3)|exact HB.out)⟩⟩
 case round=>
  clear H';try clear c1
  obtain ⟨x5_1,x6_1,x7_1,rfl,rfl,HA,HK1,g,HB⟩:=hrel;cases gk with
  | zero=>exact absurd HA.out (by simp [trivetref01_minus.l0])
  | succ k1=>
   have H:=HA.out;clear HA;simp only [trivetref01_minus.l0] at H
   by_cases c3 : x7_1 < (l0.length : Int)
   ·rw [if_pos c3] at H
    have c3b0 : decide (x7_1 < (l0.length : Int)) = true:=decide_eq_true c3;clear c3;by_cases c4 : 0≤x7_1
    ·rw [if_pos c4] at H
     have c4b0 : decide (0≤x7_1) = true:=decide_eq_true c4;clear c4;replace H:=al.mp H;obtain ⟨l,T,H⟩:=H;replace H : (if x5_1.length < 17592186044416 then (trivetref01_minus.l0 k1 l0 l1 (x5_1 ++ [Int.tmod (aa.wrap ((aa.wrap ((aa.wrap (65536 + (rd l0 x7_1))) - l)) - x6_1)) 65536]) (aa.wrap (1 - (aa.wrap (Int.tdiv (aa.wrap ((aa.wrap ((aa.wrap (65536 + (rd l0 x7_1))) - l)) - x6_1)) 65536)))) (wrap64 (x7_1 + 1))) else (none)) = some r:=H;have Z:=ka T;clear T;by_cases c6 : x5_1.length < 17592186044416
     ·rw [if_pos c6] at H
      have LMc6:=ka c6;clear c6;obtain ⟨y532,hy532⟩ : ∃ y_ : List Int,y_ = (x5_1 ++ [Int.tmod (aa.wrap ((aa.wrap ((aa.wrap (65536 + (rd l0 x7_1))) - l)) - x6_1)) 65536]):=⟨_,rfl⟩
      replace H : (trivetref01_minus.l0 k1 l0 l1 y532 (aa.wrap (1 - (aa.wrap (Int.tdiv (aa.wrap ((aa.wrap ((aa.wrap (65536 + (rd l0 x7_1))) - l)) - x6_1)) 65536)))) (wrap64 (x7_1 + 1))) = some r:=by first|(rw [hy532];with_reducible exact H)|(have H2_:=(ah _ _).symm.trans H;rw [hy532];with_reducible exact H2_)|(have H2_:=(ah _ _).symm.trans H;with_reducible exact H2_)|with_reducible exact H|(rw [hy532];exact H)|exact H
      have Ny532:=ka hy532;clear hy532;have H':=ka H;clear H;have p530 : 0≤(x7_1 : Int):=of_decide_eq_true (by first|(with_reducible assumption)|assumption);have q530 : x7_1 < (l0.length : Int):=of_decide_eq_true (by first|(with_reducible assumption)|assumption);obtain ⟨ad530,e530,hx530_0⟩:=Kd.at_int HR0.out x7_1 p530 q530;cases e530
      replace hx530_0:=(HB.out.cell (World.block_lt_of_cell? w _ hx530_0)).trans hx530_0;replace p530:=eq_true p530;replace q530:=eq_true q530;go_wp2_with (first|(go_at_call 47;(with_reducible refine (trivetref01_at.calls _ _ l1 x7_1 l _ ?side1 ?side2 Z.out).mono ?_);(case side1=>repeat (first|exact (Kd.C_below HR1.out HB.out)|with_reducible first|refine Kd.C_alloc ?_ _|refine Kd.C_drewN ?_ _|refine Kd.C_drew ?_));(case side2=>exact I.out);rintro e w' ⟨rfl,⟨nd,rfl⟩⟩;(try first|exact ⟨rfl,_,World.drewN_drewN _ _ _⟩|exact ⟨rfl,_,Eq.trans (World.drewN_drewN _ _ _) (congrArg (World.drewN _) (Nat.add_assoc _ _ _))⟩))|((with_reducible refine gate_builtin (b:=.append) (xs:=#[.tmp 26,.tmp 29]) rfl ?_);at_builtin;refine Kd.R_append (Kd.int .u64) (w0:=w) w.heap.size rfl (.tmp 26) (.tmp 29) 49 60 (.int .u64 0) 8 rfl Try.underlying49 info60 rfl (by decide) (by omega) u5 x5_1 (Int.tmod (aa.wrap ((aa.wrap ((aa.wrap (65536 + (rd l0 x7_1))) - l)) - x6_1)) 65536) [.int .u64 (Int.tmod (aa.wrap ((aa.wrap ((aa.wrap (65536 + (rd l0 x7_1))) - l)) - x6_1)) 65536)] (fun m=>(w.heap.size≤m)) (fun _=>False) rfl rfl ?aP (fun _ hk=>hk.elim) ?aF ?aO ?aB ?aS ?aL ?_;(case aP=>exact rfl);(case aB=>exact (kw HB.out));(case aF=>exact (fun m hk=>(ag (ae (kw HB.out)) hk)));(case aO=>exact (kr g.out));(case aS=>exact (ae (kw HB.out)));(case aL=>have:=LMc6.out;omega);intro L w7 ho hb hg hat;rw [← Ny532.out] at ho;replace HB:=ka (hb);have o:=ka (ho);clear g;clear ho hb hg hat))
      repeat (go_quiet (first|(go_at_call 47;(with_reducible refine (trivetref01_at.calls _ _ l1 x7_1 l _ ?side1 ?side2 Z.out).mono ?_);(case side1=>repeat (first|exact (Kd.C_below HR1.out HB.out)|with_reducible first|refine Kd.C_alloc ?_ _|refine Kd.C_drewN ?_ _|refine Kd.C_drew ?_));(case side2=>exact I.out);rintro e w' ⟨rfl,⟨nd,rfl⟩⟩;(try first|exact ⟨rfl,_,World.drewN_drewN _ _ _⟩|exact ⟨rfl,_,Eq.trans (World.drewN_drewN _ _ _) (congrArg (World.drewN _) (Nat.add_assoc _ _ _))⟩))|((with_reducible refine gate_builtin (b:=.append) (xs:=#[.tmp 26,.tmp 29]) rfl ?_);at_builtin;refine Kd.R_append (Kd.int .u64) (w0:=w) w.heap.size rfl (.tmp 26) (.tmp 29) 49 60 (.int .u64 0) 8 rfl Try.underlying49 info60 rfl (by decide) (by omega) u5 x5_1 (Int.tmod (aa.wrap ((aa.wrap ((aa.wrap (65536 + (rd l0 x7_1))) - l)) - x6_1)) 65536) [.int .u64 (Int.tmod (aa.wrap ((aa.wrap ((aa.wrap (65536 + (rd l0 x7_1))) - l)) - x6_1)) 65536)] (fun m=>(w.heap.size≤m)) (fun _=>False) rfl rfl ?aP (fun _ hk=>hk.elim) ?aF ?aO ?aB ?aS ?aL ?_;(case aP=>exact rfl);(case aB=>exact (kw HB.out));(case aF=>exact (fun m hk=>(ag (ae (kw HB.out)) hk)));(case aO=>exact (kr g.out));(case aS=>exact (ae (kw HB.out)));(case aL=>have:=LMc6.out;omega);intro L w7 ho hb hg hat;rw [← Ny532.out] at ho;replace HB:=ka (hb);have o:=ka (ho);clear g;clear ho hb hg hat));try go_wp2_with (first|(go_at_call 47;(with_reducible refine (trivetref01_at.calls _ _ l1 x7_1 l _ ?side1 ?side2 Z.out).mono ?_);(case side1=>repeat (first|exact (Kd.C_below HR1.out HB.out)|with_reducible first|refine Kd.C_alloc ?_ _|refine Kd.C_drewN ?_ _|refine Kd.C_drew ?_));(case side2=>exact I.out);rintro e w' ⟨rfl,⟨nd,rfl⟩⟩;(try first|exact ⟨rfl,_,World.drewN_drewN _ _ _⟩|exact ⟨rfl,_,Eq.trans (World.drewN_drewN _ _ _) (congrArg (World.drewN _) (Nat.add_assoc _ _ _))⟩))|((with_reducible refine gate_builtin (b:=.append) (xs:=#[.tmp 26,.tmp 29]) rfl ?_);at_builtin;refine Kd.R_append (Kd.int .u64) (w0:=w) w.heap.size rfl (.tmp 26) (.tmp 29) 49 60 (.int .u64 0) 8 rfl Try.underlying49 info60 rfl (by decide) (by omega) u5 x5_1 (Int.tmod (aa.wrap ((aa.wrap ((aa.wrap (65536 + (rd l0 x7_1))) - l)) - x6_1)) 65536) [.int .u64 (Int.tmod (aa.wrap ((aa.wrap ((aa.wrap (65536 + (rd l0 x7_1))) - l)) - x6_1)) 65536)] (fun m=>(w.heap.size≤m)) (fun _=>False) rfl rfl ?aP (fun _ hk=>hk.elim) ?aF ?aO ?aB ?aS ?aL ?_;(case aP=>exact rfl);(case aB=>exact (kw HB.out));(case aF=>exact (fun m hk=>(ag (ae (kw HB.out)) hk)));(case aO=>exact (kr g.out));(case aS=>exact (ae (kw HB.out)));(case aL=>have:=LMc6.out;omega);intro L w7 ho hb hg hat;rw [← Ny532.out] at ho;replace HB:=ka (hb);have o:=ka (ho);clear g;clear ho hb hg hat)))
      go_roundg k1
      case measure=>have:=HK1.out;omega
      case rel=>exact ⟨(y532),(aa.wrap (1 - (aa.wrap (Int.tdiv (aa.wrap ((aa.wrap ((aa.wrap (65536 + (rd l0 x7_1))) - l)) - x6_1)) 65536)))),(wrap64 (x7_1 + 1)),(by first|rfl|(simp;done)|(simp [*];done)),(by first|rfl|(simp;done)|(simp [*];done)),H',⟨by have:=HK1.out;omega⟩,⟨kr o.out⟩,⟨by repeat (first|(with_reducible first|exact HB.out|apply kc1|apply kc2|apply kc3)|exact HB.out)⟩⟩
     ·rw [if_neg c6] at H
      exact absurd H (by simp)
    ·rw [if_neg c4] at H
     exact absurd H (by simp)
   ·rw [if_neg c3] at H
    have c3b0 : decide (x7_1 < (l0.length : Int)) = false:=decide_eq_false c3;clear c3;replace H:=al.mp H;obtain ⟨⟨A,G⟩,W,H⟩:=H;replace H : (some A) = some r:=H;have A8:=ka W;clear W;obtain rfl:=Option.some.inj H;obtain ⟨N,O,a4⟩:=Kd.R_slice g.out;subst a4;go_wp2_with (first|(go_at_call 39;(with_reducible refine (trivetref01_norm.calls k1 (fun m=>some m = (.slice N x5_1.length O : Value).ownBlock) _ _ x5_1 false A G _ ?side1 A8.out).mono ?_);(case side1=>exact Kd.R_V (Kd.R_tight rfl (g.out)));rintro e X ⟨Q,rfl,ho0,hb⟩;have B:=ka (Kd.V_lower (Kd.V_mono (ok':=fun m=>(w.heap.size≤m)) ho0 (fun m D=>Or.elim D (fun E=>((g.out).1 m E.symm)) (fun F=>(ag (ae (kw HB.out)) F)))) (ae (kw HB.out)));replace g:=ka (Kd.R_below (kr g.out) hb);replace HB:=ka (below_step (kw HB.out) hb);(try clear hb ho0)))
    repeat (go_quiet (first|(go_at_call 39;(with_reducible refine (trivetref01_norm.calls k1 (fun m=>some m = (.slice N x5_1.length O : Value).ownBlock) _ _ x5_1 false A G _ ?side1 A8.out).mono ?_);(case side1=>exact Kd.R_V (Kd.R_tight rfl (g.out)));rintro e X ⟨Q,rfl,ho0,hb⟩;have B:=ka (Kd.V_lower (Kd.V_mono (ok':=fun m=>(w.heap.size≤m)) ho0 (fun m D=>Or.elim D (fun E=>((g.out).1 m E.symm)) (fun F=>(ag (ae (kw HB.out)) F)))) (ae (kw HB.out)));replace g:=ka (Kd.R_below (kr g.out) hb);replace HB:=ka (below_step (kw HB.out) hb);(try clear hb ho0)));try go_wp2_with (first|(go_at_call 39;(with_reducible refine (trivetref01_norm.calls k1 (fun m=>some m = (.slice N x5_1.length O : Value).ownBlock) _ _ x5_1 false A G _ ?side1 A8.out).mono ?_);(case side1=>exact Kd.R_V (Kd.R_tight rfl (g.out)));rintro e X ⟨Q,rfl,ho0,hb⟩;have B:=ka (Kd.V_lower (Kd.V_mono (ok':=fun m=>(w.heap.size≤m)) ho0 (fun m D=>Or.elim D (fun E=>((g.out).1 m E.symm)) (fun F=>(ag (ae (kw HB.out)) F)))) (ae (kw HB.out)));replace g:=ka (Kd.R_below (kr g.out) hb);replace HB:=ka (below_step (kw HB.out) hb);(try clear hb ho0))))
    go_ret
    exact ⟨_,by first|rfl|(simp [errW_none,errW_some] <;> rfl)|(simp [*,errW_none,errW_some] <;> rfl),by (with_reducible repeat (first|apply Kd.V_alloc|apply Kd.V_drewN|apply Kd.V_drew));exact B.out,by repeat (first|(with_reducible first|exact HB.out|apply kc1|apply kc2|apply kc3)|exact HB.out)⟩
theorem trivetref01_minus.loop (n : Nat) : ∀ (k : Nat) (a b acc : List Int) (c : Int) (i : Nat),av a→av b→av acc→0≤c∧c≤1→a.length = i + n→b.length≤a.length→acc.length = i→i + n < 500000→ab b≤ab a→ab acc + 65536 ^ i * (ab (a.drop i) - ab (b.drop i) - c) = ab a - ab b→2 * n + i + 4≤k→
  trivetref01_minus.l0 k a b acc c i = some (ad (ab a - ab b)):=by
 induction n with
 | zero=>
  intro k a b acc c i ha hb hacc hc la lb hl hi hv hi2 hk;obtain ⟨j,rfl⟩ : ∃ j,k = j + 1:=⟨k - 1,by omega⟩
  rw [List.drop_eq_nil_of_le (by omega),List.drop_eq_nil_of_le (by omega)] at hi2
  simp only [ab] at hi2
  have hlt:=ao hacc;have h0:=ar hacc;rw [hl] at hlt
  have hp:=U.pow_pos i
  have ec : c = 0:=by
   refine Classical.byContradiction fun hn=>?_
   have : c = 1:=by omega
   subst this;have e : (65536 : Int) ^ i * (0 - 0 - 1) = -65536 ^ i:=by omega
   rw [e] at hi2
   omega
  subst ec;have hi3 : ab acc = ab a - ab b:=by simpa using hi2
  simp only [trivetref01_minus.l0]
  rw [if_neg (by omega),trivetref01_norm.tells j acc false hacc (by omega) (by omega),hi3]
  rfl
 | succ n ih=>
  intro k a b acc c i ha hb hacc hc la lb hl hi hv hi2 hk;obtain ⟨j,rfl⟩ : ∃ j,k = j + 1:=⟨k - 1,by omega⟩
  have ga:=ha.get i;have gb:=hb.get i;have ra : rd a (i : Int) = a.getD i 0:=rfl;rw [an a i,an b i] at hi2
  simp only [trivetref01_minus.l0]
  rw [if_pos (by omega),if_pos (by omega),trivetref01_at.num,ah,if_pos (by omega),ra]
  have ih':=fun q r=>ih j a b (acc ++ [r]) q (i + 1) ha hb
  generalize a.getD i 0 = x at *;generalize b.getD i 0 = y at *;rw [M.wrapu_id (n:=65536 + x) (by omega) (by omega),M.wrapu_id (n:=65536 + x - y) (by omega) (by omega),M.wrapu_id (n:=65536 + x - y - c) (by omega) (by omega),M.tdivu (show 0≤65536 + x - y - c by omega),M.tmodu (show 0≤65536 + x - y - c by omega),M.wrapu_id (n:=(65536 + x - y - c) / 65536) (by omega) (by omega),M.wrapu_id (n:=1 - (65536 + x - y - c) / 65536) (by omega) (by omega),M.w64_id (n:=(i : Int) + 1) (by omega) (by omega)]
  refine ih' _ _ (hacc.add (U.Dg.one (by omega))) (by omega) (by omega) lb (by simp;omega) (by omega) hv ?_ (by omega);rw [← hi2,aq,U.val_one,hl,U.pow_succ]
  generalize ab (a.drop (i + 1)) = u;generalize ab (b.drop (i + 1)) = v;have : x + 65536 * u - (y + 65536 * v) - c = (65536 + x - y - c) % 65536 + 65536 * (u - v - (1 - (65536 + x - y - c) / 65536)):=by omega
  rw [this]
  generalize (65536 + x - y - c) % 65536 = r;generalize u - v - (1 - (65536 + x - y - c) / 65536) = s;generalize (65536 : Int) ^ i = p;rw [Int.mul_add,Int.mul_comm 65536 p,Int.mul_assoc,Int.add_assoc]
theorem trivetref01_minus.num (k : Nat) (x y : Int) (hy : 0≤y) (hxy : y≤x) (lx : (ad x).length≤1000) (hk : 2 * (ad x).length + 4≤k) : trivetref01_minus.f k (ad x) (ad y) = some (ad (x - y)):=by
 have ax:=ak (n:=x) (by omega);have ay:=ak hy
 have ly : (ad y).length≤(ad x).length:=by
  have h1:=ao (ai x);rw [ax] at h1
  exact ap (ad x).length y (by omega)
 have:=trivetref01_minus.loop (ad x).length k (ad x) (ad y) [] 0 0 (ai x) (ai y) U.Dg.nil (by omega) (by omega) ly rfl (by omega) (by omega) (by simp [ab]) (by omega);rw [ax,ay] at this
 exact this
end Go.Proofs.Ytghimjkoaldafaa.P
