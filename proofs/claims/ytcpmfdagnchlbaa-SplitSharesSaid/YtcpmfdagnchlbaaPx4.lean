-- Written by a program of this session out of the translation of the seat: Lean functions and the proofs that the Go functions come to them.
import Derived.Test.YtcpmfdagnchlbaaPx0
import Derived.Test.YtcpmfdagnchlbaaPx1
import Derived.Test.YtcpmfdagnchlbaaPx2
import Derived.Test.YtcpmfdagnchlbaaPx3
namespace Go.Proofs.Ytcpmfdagnchlbaa.P
open Go.RowKit Go.Proofs.YtcpmfdagnchlbaaW.PrintWords Go.Proofs.YtcpmfdagnchlbaaW.PrintLast Go.Proofs.YtcpmfdagnchlbaaW.PrintMore
attribute [local go_sem] max2_int min2_int max_two min_two max_three min_three max_four min_four   -- for this text's walks alone
set_option linter.unusedVariables false
set_option linter.unusedSimpArgs false

/-! ### split_Shares: function 10,its laws -/
def Shr.qs (a all : Int) (l : List Int) : List Int:=l.map (fun w=>a * w / all)
def Shr.rs (a all : Int) (l : List Int) : List Int:=l.map (fun w=>a * w % all)
def Shr.inc (q o : List Int) : List Int:=o.foldl (fun q i=>q.set i.toNat (rd q i + 1)) q
/-- a total's shares by weights -/
def Shr.sh (a : Int) (l : List Int) : List Int:=Shr.inc (Shr.qs a l.sum l) ((Srt.srt (Shr.rs a l.sum l) (Srt.upto l.length)).take (a - (Shr.qs a l.sum l).sum).toNat)
def Shr.may (a : Int) (l : List Int) : Prop:=0≤a∧a≤10000000000000∧l.length≤480∧(∀ w ∈ l,0≤w∧w≤10000000000000)∧0 < l.sum
instance (a : Int) (l : List Int) : Decidable (Shr.may a l):=inferInstanceAs (Decidable (_∧_∧_∧_∧_))
def Shr.res (a : Int) (l : List Int) : List Int × Option Int:=if Shr.may a l then (Shr.sh a l,none) else ([],some 1)
theorem Shr.sum_nn : ∀ {l : List Int},(∀ w ∈ l,0≤w∧w≤10000000000000)→0≤l.sum∧l.sum≤10000000000000 * (l.length : Int)
 | [],_=>by simp
 | x :: r,h=>by
  have:=Shr.sum_nn (l:=r) (fun w hw=>h w (by simp [hw]));have:=h x (by simp);simp only [List.sum_cons,List.length_cons]
  omega
theorem Shr.le_sum : ∀ {l : List Int},(∀ w ∈ l,0≤w)→∀ w ∈ l,w≤l.sum
 | [],_,w,hw=>by simp at hw
 | x :: r,h,w,hw=>by
  have nn : ∀ {l : List Int},(∀ w ∈ l,0≤w)→0≤l.sum:=by
   intro l;induction l with
   | nil=>intro _;simp
   | cons y s ih=>intro hl;have:=hl y (by simp);have:=ih (fun w hw=>hl w (by simp [hw]));simp only [List.sum_cons];omega
  have hx:=h x (by simp);have hr:=nn (l:=r) (fun w hw=>h w (by simp [hw]));simp only [List.sum_cons]
  rcases List.mem_cons.mp hw with rfl|hw
  ·omega
  ·have:=Shr.le_sum (l:=r) (fun w hw=>h w (by simp [hw])) w hw;omega
theorem Shr.left_eq (a all : Int) (h : 0 < all) : ∀ l : List Int,a * l.sum = all * (Shr.qs a all l).sum + (Shr.rs a all l).sum
 | []=>by simp [Shr.qs,Shr.rs]
 | x :: r=>by
  have:=Shr.left_eq a all h r;have e:=Int.mul_ediv_add_emod (a * x) all;simp only [Shr.qs,Shr.rs,List.map_cons,List.sum_cons,Int.mul_add] at *
  omega
theorem Shr.rs_sum (a all : Int) (h : 0 < all) : ∀ l : List Int,0≤(Shr.rs a all l).sum∧(l≠[]→(Shr.rs a all l).sum < all * (l.length : Int))
 | []=>by simp [Shr.rs]
 | x :: r=>by
  obtain ⟨h1,h2⟩:=Shr.rs_sum a all h r;have e1:=Int.emod_nonneg (a * x) (show all≠0 by omega);have e2:=Int.emod_lt_of_pos (a * x) h;simp only [Shr.rs,List.map_cons,List.sum_cons,List.length_cons] at *
  refine ⟨by omega,fun _=>?_⟩
  have e3 : all * ((r.length + 1 : Nat) : Int) = all * (r.length : Int) + all:=by
   rw [show ((r.length + 1 : Nat) : Int) = (r.length : Int) + 1 by omega,Int.mul_add,Int.mul_one]
  rw [e3]
  cases r with
  | nil=>simp at *;omega
  | cons y s=>have:=h2 (by simp);omega
theorem Shr.left_in {a : Int} {l : List Int} (h : Shr.may a l) : 0≤a - (Shr.qs a l.sum l).sum∧a - (Shr.qs a l.sum l).sum < (l.length : Int):=by
 obtain ⟨h1,h2,h3,h4,h5⟩:=h;have hl : l≠[]:=by rintro rfl;simp at h5
 have e:=Shr.left_eq a l.sum h5 l;obtain ⟨r1,r2⟩:=Shr.rs_sum a l.sum h5 l;have r2:=r2 hl;have e2 : l.sum * (a - (Shr.qs a l.sum l).sum) = (Shr.rs a l.sum l).sum:=by rw [Int.mul_sub,Int.mul_comm l.sum a];omega
 constructor
 ·refine Classical.byContradiction fun hn=>?_
  have:=Int.mul_le_mul_of_nonneg_left (show a - (Shr.qs a l.sum l).sum≤-1 by omega) (Int.le_of_lt h5);omega
 ·refine Classical.byContradiction fun hn=>?_
  have:=Int.mul_le_mul_of_nonneg_left (show (l.length : Int)≤a - (Shr.qs a l.sum l).sum by omega) (Int.le_of_lt h5);omega
theorem split_Shares.sum (n : Nat) : ∀ (k i : Nat) (a : Int) (l : List Int),0≤a∧a≤10000000000000→l.length = i + n→l.length≤480→(∀ w ∈ l.take i,0≤w∧w≤10000000000000)→
  split_Shares.l0 (k + n + 1) a l (l.take i).sum l (l.length : Int) i = if ∀ w ∈ l.drop i,0≤w∧w≤10000000000000 then (if l.sum = 0 then some ([],some 1) else split_Shares.l1 k a l.sum (List.replicate l.length 0) a [] l (l.length : Int) 0 (List.replicate l.length 0)) else some ([],some 1):=by
 induction n with
 | zero=>
  intro k i a l ha hl hm hok;simp only [split_Shares.l0]
  rw [if_neg (by omega),List.drop_eq_nil_of_le (by omega),List.take_of_length_le (by omega)]
  rw [if_pos (show ∀ w ∈ ([] : List Int),0≤w∧w≤10000000000000 by simp)]
  by_cases hz : l.sum = 0
  ·rw [if_pos hz,if_pos hz]
  ·rw [if_neg hz,if_neg hz,if_pos (by omega),if_pos (by simp;omega)]
   rfl
 | succ n ih=>
  intro k i a l ha hl hm hok;have hget : l.getD i 0 = l[i]'(by omega):=by rw [List.getD_eq_getElem?_getD,List.getElem?_eq_getElem (by omega)];rfl
  have hdrop : l.drop i = l.getD i 0 :: l.drop (i + 1):=by rw [List.drop_eq_getElem_cons (by omega),hget]
  have htake : l.take (i + 1) = l.take i ++ [l.getD i 0]:=by rw [List.take_add_one,List.getElem?_eq_getElem (by omega),hget];rfl
  have hr : rd l (i : Int) = l.getD i 0:=rfl;have ih':=ih k (i + 1) a l ha (by omega) hm;have hs:=Shr.sum_nn hok;have hlt : (l.take i).length≤480:=by simp;omega
  rw [htake,U.sum_add] at ih'
  obtain ⟨K,hK⟩ : ∃ K,K = k + n + 1:=⟨_,rfl⟩
  rw [← hK] at ih'
  rw [show k + (n + 1) + 1 = K + 1 by omega]
  simp only [split_Shares.l0]
  rw [if_pos (by omega),if_pos (by omega),if_pos (by omega),hr,hdrop]
  generalize l.getD i 0 = x at *;by_cases h1 : x < 0
  ·rw [if_pos h1,if_neg (by intro h;have:=h x (by simp);omega)]
  ·rw [if_neg h1]
   by_cases h2 : x > 10000000000000
   ·rw [if_pos h2,if_neg (by intro h;have:=h x (by simp);omega)]
   ·rw [if_neg h2,M.wrapu_id (n:=x) (by omega) (by omega),M.wrapu_id (n:=(l.take i).sum + x) (by omega) (by omega),M.w64_id (n:=(i : Int) + 1) (by omega) (by omega)]
    have e : (l.take i).sum + [x].sum = (l.take i).sum + x:=by simp
    rw [e] at ih'
    have:=ih' (by
     intro w hw;rcases List.mem_append.mp hw with h|h
     ·exact hok w h
     ·simp at h;omega)
    rw [show ((i : Int) + 1) = ((i + 1 : Nat) : Int) by omega,this]
    have hiff : (∀ w ∈ l.drop (i + 1),0≤w∧w≤10000000000000) ↔ (∀ w ∈ x :: l.drop (i + 1),0≤w∧w≤10000000000000):=by
     constructor
     ·intro h w hw;rcases List.mem_cons.mp hw with rfl|hw
      ·omega
      ·exact h w hw
     ·intro h w hw;exact h w (by simp [hw])
    by_cases hc : ∀ w ∈ l.drop (i + 1),0≤w∧w≤10000000000000
    ·rw [if_pos hc,if_pos (hiff.mp hc)]
    ·rw [if_neg hc,if_neg (fun h=>hc (hiff.mpr h))]

theorem split_Shares.parts (n : Nat) : ∀ (k i : Nat) (a all : Int) (l : List Int),0≤a∧a≤10000000000000→l.length = i + n→l.length≤480→(∀ w ∈ l,0≤w∧w≤all)→0 < all∧all≤10000000000000 * 480→
  split_Shares.l1 (k + n + 1) a all ((Shr.qs a all l).take i ++ List.replicate n 0) (a - ((Shr.qs a all l).take i).sum) (Srt.upto i) l (l.length : Int) i ((Shr.rs a all l).take i ++ List.replicate n 0) =
   split_Shares.l1 (k + 1) a all (Shr.qs a all l) (a - (Shr.qs a all l).sum) (Srt.upto l.length) l (l.length : Int) (l.length : Int) (Shr.rs a all l):=by
 induction n with
 | zero=>
  intro k i a all l ha hl hm hok hall;have h1 : (Shr.qs a all l).take i = Shr.qs a all l:=List.take_of_length_le (by simp [Shr.qs];omega);have h2 : (Shr.rs a all l).take i = Shr.rs a all l:=List.take_of_length_le (by simp [Shr.rs];omega);have h3 : i = l.length:=by omega
  rw [h1,h2,h3]
  simp
 | succ n ih=>
  intro k i a all l ha hl hm hok hall;have hx:=hok (l.getD i 0) (by rw [List.getD_eq_getElem?_getD,List.getElem?_eq_getElem (by omega)];exact List.getElem_mem _);have ih':=ih k (i + 1) a all l ha (by omega) hm hok hall
  have q1 : (Shr.qs a all l).take (i + 1) = (Shr.qs a all l).take i ++ [a * l.getD i 0 / all]:=by
   rw [List.take_add_one]
   simp [Shr.qs,List.getD_eq_getElem?_getD,List.getElem?_eq_getElem (show i < l.length by omega)]
  have r1 : (Shr.rs a all l).take (i + 1) = (Shr.rs a all l).take i ++ [a * l.getD i 0 % all]:=by
   rw [List.take_add_one]
   simp [Shr.rs,List.getD_eq_getElem?_getD,List.getElem?_eq_getElem (show i < l.length by omega)]
  have u1 : Srt.upto (i + 1) = Srt.upto i ++ [(i : Int)]:=by simp [Srt.upto,List.range_succ]
  have lq : ((Shr.qs a all l).take i).length = i:=by simp [Shr.qs];omega
  have lr : ((Shr.rs a all l).take i).length = i:=by simp [Shr.rs];omega
  have hr : rd l (i : Int) = l.getD i 0:=rfl;rw [q1,r1,u1,U.sum_add] at ih'
  obtain ⟨K,hK⟩ : ∃ K,K = k + n + 1:=⟨_,rfl⟩
  rw [← hK] at ih'
  rw [show k + (n + 1) + 1 = K + 1 by omega]
  conv=>lhs;simp only [split_Shares.l1]
  rw [if_pos (by omega),if_pos (by omega),if_pos (by omega),hr]
  generalize l.getD i 0 = x at *;have p0 : 0≤a * x:=Int.mul_nonneg ha.1 hx.1;have p1 : a * x≤a * all:=Int.mul_le_mul_of_nonneg_left hx.2 ha.1;have d0 : 0≤a * x / all:=Int.ediv_nonneg p0 (by omega)
  have d1 : a * x / all≤a:=by
   have : a * x / all≤a * all / all:=Int.ediv_le_ediv hall.1 p1;rw [Int.mul_ediv_cancel _ (by omega)] at this
   exact this
  rw [M.wrapu_id (n:=a) (by omega) (by omega),M.wrapu_id (n:=x) (by omega) (by omega)]
  have hmul : bits_Mul64_s.f a x = some (a * x / 18446744073709551616,a * x % 18446744073709551616):=by
   unfold bits_Mul64_s.f
   rw [if_pos ⟨by omega,by omega,by omega,by omega⟩]
  have hdiv : bits_Div64_s.f (a * x / 18446744073709551616) (a * x % 18446744073709551616) all = some (a * x / all,a * x % all):=by
   have e1 : a * x≤10000000000000 * (10000000000000 * 480):=by
    have:=Int.mul_le_mul ha.2 (show x≤10000000000000 * 480 by omega) hx.1 (by decide);omega
   have e2 : a * x < all * 18446744073709551616:=by
    have : a * all≤10000000000000 * all:=Int.mul_le_mul_of_nonneg_right ha.2 (by omega);omega
   have e3 : a * x / 18446744073709551616 < all:=Int.ediv_lt_of_lt_mul (by decide) e2;have e4 : a * x / 18446744073709551616 * 18446744073709551616 + a * x % 18446744073709551616 = a * x:=by omega
   unfold bits_Div64_s.f
   rw [if_pos ⟨by omega,by omega,by omega,by omega,by omega⟩,e4]
  rw [hmul,Option.bind_some,hdiv,Option.bind_some]
  have hset : ∀ (p : List Int) (y : Int),p.length = i→(p ++ List.replicate (n + 1) 0).set (i : Int).toNat y = (p ++ [y]) ++ List.replicate n 0:=by
   intro p y hp;rw [show ((i : Int)).toNat = i from rfl,List.set_append_right _ _ (by omega),hp,Nat.sub_self,List.replicate_succ,List.set_cons_zero]
   simp
  rw [if_pos (by simp [lq];omega),if_pos (by simp [lr];omega),if_pos (by simp [Srt.upto];omega),hset _ _ lq,hset _ _ lr,M.w64_id (n:=a * x / all) (by omega) (by omega),M.w64_id (n:=(i : Int) + 1) (by omega) (by omega)]
  have hs0 : 0≤((Shr.qs a all l).take i).sum∧((Shr.qs a all l).take i).sum≤10000000000000 * 480:=by
   have : ∀ w ∈ (Shr.qs a all l).take i,0≤w∧w≤10000000000000:=by
    intro w hw;obtain ⟨y,hy,rfl⟩:=List.mem_map.mp (List.mem_of_mem_take hw);have hy:=hok y hy;have p0 : 0≤a * y:=Int.mul_nonneg ha.1 hy.1;have p1 : a * y≤a * all:=Int.mul_le_mul_of_nonneg_left hy.2 ha.1;have d1 : a * y / all≤a * all / all:=Int.ediv_le_ediv hall.1 p1;rw [Int.mul_ediv_cancel _ (by omega)] at d1
    have d0 : 0≤a * y / all:=Int.ediv_nonneg p0 (by omega);omega
   have h:=Shr.sum_nn this;rw [lq] at h
   omega
  rw [M.w64_id (by omega) (by omega)]
  have e : a - (((Shr.qs a all l).take i).sum + [a * x / all].sum) = a - ((Shr.qs a all l).take i).sum - a * x / all:=by simp;omega
  rw [e] at ih'
  exact ih'
theorem Shr.inc_len : ∀ (o q : List Int),(Shr.inc q o).length = q.length
 | [],q=>rfl
 | x :: o,q=>by
  have:=Shr.inc_len o (q.set x.toNat (rd q x + 1));simp only [Shr.inc,List.foldl_cons] at *
  rw [this]
  simp
theorem split_Shares.give (n : Nat) : ∀ (k i : Nat) (q o : List Int),o.length = i + n→o.length≤480→(∀ x ∈ o,0≤x∧x < (q.length : Int))→(∀ v ∈ q,-1000≤v∧v + n≤100000000000000)→
  split_Shares.l2 (k + n + 1) q o (o.length : Int) i = some (Shr.inc q (o.drop i),none):=by
 induction n with
 | zero=>
  intro k i q o hl hm ho hq;simp only [split_Shares.l2]
  rw [if_neg (by omega),List.drop_eq_nil_of_le (by omega)]
  rfl
 | succ n ih=>
  intro k i q o hl hm ho hq;have hget : o.getD i 0 = o[i]'(by omega):=by rw [List.getD_eq_getElem?_getD,List.getElem?_eq_getElem (by omega)];rfl
  have hx:=ho (o.getD i 0) (by rw [hget];exact List.getElem_mem _);have hdrop : o.drop i = o.getD i 0 :: o.drop (i + 1):=by rw [List.drop_eq_getElem_cons (by omega),hget]
  have hr : rd o (i : Int) = o.getD i 0:=rfl
  have hv:=hq (rd q (o.getD i 0)) (by
   unfold rd
   rw [List.getD_eq_getElem?_getD,List.getElem?_eq_getElem (by omega)]
   exact List.getElem_mem _)
  obtain ⟨K,hK⟩ : ∃ K,K = k + n + 1:=⟨_,rfl⟩
  have ih':=fun q=>ih k (i + 1) q o (by omega) hm
  rw [← hK] at ih'
  rw [show k + (n + 1) + 1 = K + 1 by omega]
  simp only [split_Shares.l2]
  rw [if_pos (by omega),if_pos (by omega),if_pos (by omega),hr,hdrop,if_pos hx.1,if_pos hx.2,M.w64_id (n:=(i : Int) + 1) (by omega) (by omega),M.w64_id (n:=rd q (o.getD i 0) + 1) (by omega) (by omega)]
  refine ih' _ ?_ ?_
  ·intro x hx;rw [List.length_set]
   exact ho x hx
  ·intro v hv2;rcases List.mem_or_eq_of_mem_set hv2 with h|h
   ·have:=hq v h;omega
   ·subst h;omega
theorem split_Shares.num (k : Nat) (a : Int) (l : List Int) (ha : M.In a) (hl : ∀ w ∈ l,M.In w) (hm : l.length≤100000) (hk : 2000≤k) : split_Shares.f k a l = some (Shr.res a l):=by
 have hj : ∀ (b : Bool),b = true→∀ k,1≤k→split_Shares.j0 k a l b = some ([],some 1):=by
  intro b hb k hk;obtain ⟨j,rfl⟩ : ∃ j,k = j + 1:=⟨k - 1,by omega⟩
  subst hb;simp [split_Shares.j0]
 unfold split_Shares.f Shr.res
 by_cases h1 : a < 0
 ·rw [if_pos h1,hj true rfl k (by omega),if_neg (by unfold Shr.may;omega)]
 ·rw [if_neg h1]
  by_cases h2 : a > 10000000000000
  ·rw [if_pos h2,hj true rfl k (by omega),if_neg (by unfold Shr.may;omega)]
  ·rw [if_neg h2]
   by_cases h3 : (l.length : Int) > 480
   ·rw [hj _ (decide_eq_true h3) k (by omega),if_neg (by unfold Shr.may;omega)]
   ·rw [decide_eq_false h3]
    obtain ⟨k0,hk0⟩ : ∃ k0,k = (k0 + l.length + 1) + 1:=⟨k - l.length - 2,by omega⟩
    rw [hk0]
    obtain ⟨K,hK⟩ : ∃ K,K = k0 + l.length + 1:=⟨_,rfl⟩
    have s0:=split_Shares.sum l.length k0 0 a l (by omega) (by omega) (by omega) (by simp);rw [← hK] at s0 ⊢
    simp only [split_Shares.j0]
    rw [if_neg (by decide)]
    have e0 : split_Shares.l0 K a l 0 l (l.length : Int) 0 = _:=s0;rw [e0,List.drop_zero]
    by_cases h4 : ∀ w ∈ l,0≤w∧w≤10000000000000
    ·rw [if_pos h4]
     have hs:=Shr.sum_nn h4;by_cases h5 : l.sum = 0
     ·rw [if_pos h5,if_neg (by unfold Shr.may;omega)]
     ·have hmay : Shr.may a l:=⟨by omega,by omega,by omega,h4,by omega⟩
      have hleft:=Shr.left_in hmay;have hlen : 0 < l.length:=by omega
      rw [if_neg h5,if_pos hmay]
      obtain ⟨k1,hk1⟩ : ∃ k1,k0 = k1 + l.length + 1:=⟨k0 - l.length - 1,by omega⟩
      have hle : ∀ w ∈ l,0≤w∧w≤l.sum:=fun w hw=>⟨(h4 w hw).1,Shr.le_sum (fun w hw=>(h4 w hw).1) w hw⟩
      have p0:=split_Shares.parts l.length k1 0 a l.sum l (by omega) (by omega) (by omega) hle (by omega)
      have p1 : split_Shares.l1 k0 a l.sum (List.replicate l.length 0) a [] l (l.length : Int) 0 (List.replicate l.length 0) = split_Shares.l1 (k1 + 1) a l.sum (Shr.qs a l.sum l) (a - (Shr.qs a l.sum l).sum) (Srt.upto l.length) l (l.length : Int) (l.length : Int) (Shr.rs a l.sum l):=by
       rw [hk1]
       have:=p0;simp only [List.take_zero,List.nil_append,List.sum_nil,Int.sub_zero] at this
       exact this
      rw [p1]
      have lq : (Shr.qs a l.sum l).length = l.length:=by simp [Shr.qs]
      have lr : (Shr.rs a l.sum l).length = l.length:=by simp [Shr.rs]
      have hok:=Srt.ok_upto (r:=Shr.rs a l.sum l) (by omega) (by omega);have hsp:=Srt.spec (r:=Shr.rs a l.sum l) (by omega) (by omega);rw [lr] at hok hsp
      have lsrt:=hsp.1.length_eq;have lup : (Srt.upto l.length).length = l.length:=by simp [Srt.upto]
      rw [lup] at lsrt
      simp only [split_Shares.l1]
      rw [if_neg (by omega),if_pos (show Srt.ok _ _ = true from decide_eq_true hok),if_pos hleft.1,if_pos (by omega),Option.bind_some]
      have lt : ((Srt.srt (Shr.rs a l.sum l) (Srt.upto l.length)).take (a - (Shr.qs a l.sum l).sum).toNat).length≤480:=by simp;omega
      obtain ⟨o,hoo⟩ : ∃ o,o = (Srt.srt (Shr.rs a l.sum l) (Srt.upto l.length)).take (a - (Shr.qs a l.sum l).sum).toNat:=⟨_,rfl⟩
      have hres : Shr.sh a l = Shr.inc (Shr.qs a l.sum l) o:=by rw [hoo];rfl
      rw [hres]
      rw [← hoo] at lt ⊢
      obtain ⟨k2,hk2⟩ : ∃ k2,k1 = k2 + o.length + 1:=⟨k1 - o.length - 1,by omega⟩
      rw [hk2]
      have g0:=split_Shares.give o.length k2 0 (Shr.qs a l.sum l) o (Nat.zero_add _).symm lt (by
       intro x hx;rw [hoo] at hx
       have hx:=hsp.1.mem_iff.mp (List.mem_of_mem_take hx);obtain ⟨i,hi,rfl⟩:=List.mem_map.mp hx;have:=List.mem_range.mp hi;omega) (by
       intro v hv;obtain ⟨y,hy,rfl⟩:=List.mem_map.mp hv;have hy:=hle y hy;have p0 : 0≤a * y:=Int.mul_nonneg (by omega) hy.1;have p1 : a * y≤a * l.sum:=Int.mul_le_mul_of_nonneg_left hy.2 (by omega);have d1 : a * y / l.sum≤a * l.sum / l.sum:=Int.ediv_le_ediv (by omega) p1;rw [Int.mul_ediv_cancel _ (by omega)] at d1
       have d0 : 0≤a * y / l.sum:=Int.ediv_nonneg p0 (by omega);omega)
      exact g0
    ·rw [if_neg h4,if_neg (by unfold Shr.may;intro h;exact h4 h.2.2.2.1)]
theorem Shr.up : Shr.res 100 [1,1,1] = ([34,33,33],none):=by
 have e : Srt.srt [1,1,1] (Srt.upto 3) = [0,1,2]:=Srt.is (r:=[1,1,1]) (by decide) (by decide) (by decide) (by decide);have q : Shr.qs 100 3 [1,1,1] = [33,33,33]:=by decide
 have r : Shr.rs 100 3 [1,1,1] = [1,1,1]:=by decide
 have s : ([1,1,1] : List Int).sum = 3:=by decide
 have l : ([1,1,1] : List Int).length = 3:=rfl;unfold Shr.res Shr.sh
 rw [if_pos (by decide),s,q,r,l,e]
 decide
theorem Shr.res_len (a : Int) (l : List Int) : (Shr.res a l).1.length = if Shr.may a l then l.length else 0:=by
 unfold Shr.res
 split
 ·simp [Shr.sh,Shr.inc_len,Shr.qs]
 ·rfl
theorem Shr.rd_set (q : List Int) (x y : Int) (j : Nat) (hx : 0≤x∧x < (q.length : Int)) : rd (q.set x.toNat y) (j : Int) = if x = (j : Int) then y else rd q (j : Int):=by
 unfold rd
 simp only [List.getD_eq_getElem?_getD,Int.toNat_natCast]
 by_cases h : x = (j : Int)
 ·subst h;rw [if_pos rfl]
  simp only [Int.toNat_natCast]
  rw [List.getElem?_set_self (by omega)];rfl
 ·rw [if_neg h,List.getElem?_set_ne (by omega)]
theorem Shr.inc_get : ∀ (o q : List Int),o.Nodup→(∀ x ∈ o,0≤x∧x < (q.length : Int))→∀ j : Nat,rd (Shr.inc q o) (j : Int) = rd q (j : Int) + if (j : Int) ∈ o then 1 else 0
 | [],q,_,_,j=>by simp [Shr.inc]
 | x :: o,q,hn,hr,j=>by
  have hn':=List.nodup_cons.mp hn;have hx:=hr x (by simp);have ih:=Shr.inc_get o (q.set x.toNat (rd q x + 1)) hn'.2 (fun y hy=>by rw [List.length_set];exact hr y (by simp [hy])) j;have e : Shr.inc q (x :: o) = Shr.inc (q.set x.toNat (rd q x + 1)) o:=rfl;rw [e,ih,Shr.rd_set q x _ j hx]
  by_cases h : x = (j : Int)
  ·subst h;rw [if_pos rfl,if_neg hn'.1,if_pos (by simp)]
   omega
  ·rw [if_neg h]
   have : ((j : Int) ∈ x :: o) ↔ ((j : Int) ∈ o):=by
    constructor
    ·intro hm;rcases List.mem_cons.mp hm with h'|h'
     ·exact absurd h'.symm h
     ·exact h'
    ·intro hm;simp [hm]
   by_cases hm : (j : Int) ∈ o
   ·rw [if_pos hm,if_pos (this.mpr hm)]
   ·rw [if_neg hm,if_neg (fun h2=>hm (this.mp h2))]
theorem Shr.sum_set : ∀ (q : List Int) (i : Nat) (y : Int),i < q.length→(q.set i y).sum = q.sum - q.getD i 0 + y
 | [],i,y,h=>by simp at h
 | x :: q,0,y,h=>by simp;omega
 | x :: q,i + 1,y,h=>by
  have:=Shr.sum_set q i y (by simpa using h);simp only [List.set_cons_succ,List.sum_cons,this]
  simp
  omega
theorem Shr.inc_sum : ∀ (o q : List Int),(∀ x ∈ o,0≤x∧x < (q.length : Int))→(Shr.inc q o).sum = q.sum + o.length
 | [],q,_=>by simp [Shr.inc]
 | x :: o,q,hr=>by
  have hx:=hr x (by simp);have ih:=Shr.inc_sum o (q.set x.toNat (rd q x + 1)) (fun y hy=>by rw [List.length_set];exact hr y (by simp [hy]));have e : Shr.inc q (x :: o) = Shr.inc (q.set x.toNat (rd q x + 1)) o:=rfl;rw [e,ih,Shr.sum_set _ _ _ (by omega)]
  unfold rd
  simp only [List.length_cons]
  omega
def Shr.ord (a : Int) (l : List Int) : List Int:=Srt.srt (Shr.rs a l.sum l) (Srt.upto l.length)
def Shr.left (a : Int) (l : List Int) : Int:=a - (Shr.qs a l.sum l).sum
theorem Srt.mem_upto {n : Nat} {x : Int} : x ∈ Srt.upto n ↔ 0≤x∧x < (n : Int):=by
 unfold Srt.upto
 constructor
 ·intro h;obtain ⟨i,hi,rfl⟩:=List.mem_map.mp h;have:=List.mem_range.mp hi;omega
 ·intro h;exact List.mem_map.mpr ⟨x.toNat,List.mem_range.mpr (by omega),by omega⟩
theorem Shr.order {a : Int} {l : List Int} (h : Shr.may a l) : (Shr.ord a l).Perm (Srt.upto l.length)∧(Shr.ord a l).Pairwise (Srt.T (Shr.rs a l.sum l))∧(Shr.ord a l).Nodup∧(Shr.ord a l).length = l.length:=by
 have lr : (Shr.rs a l.sum l).length = l.length:=by simp [Shr.rs]
 have hl : 0 < l.length:=by
  cases l with
  | nil=>have:=h.2.2.2.2;simp at this
  | cons x r=>simp
 have hsp:=Srt.spec (r:=Shr.rs a l.sum l) (by omega) (by have:=h.2.2.1;omega);rw [lr] at hsp
 refine ⟨hsp.1,hsp.2,?_,?_⟩
 ·refine List.Pairwise.imp ?_ hsp.2;intro x y ht e;subst e;unfold Srt.T at ht
  omega
 ·have:=hsp.1.length_eq;rw [show (Srt.upto l.length).length = l.length by simp [Srt.upto]] at this
  exact this
theorem Shr.get {a : Int} {l : List Int} (h : Shr.may a l) (j : Nat) (hj : j < l.length) : rd (Shr.sh a l) (j : Int) = a * rd l (j : Int) / l.sum + if (j : Int) ∈ (Shr.ord a l).take (Shr.left a l).toNat then 1 else 0:=by
 have ho:=Shr.order h;have e : Shr.sh a l = Shr.inc (Shr.qs a l.sum l) ((Shr.ord a l).take (Shr.left a l).toNat):=rfl;rw [e,Shr.inc_get]
 ·congr 1
  simp [rd,Shr.qs,List.getD_eq_getElem?_getD,List.getElem?_eq_getElem hj]
 ·exact List.Pairwise.sublist (List.take_sublist _ _) ho.2.2.1
 ·intro x hx;have:=Srt.mem_upto.mp (ho.1.mem_iff.mp (List.mem_of_mem_take hx));simpa [Shr.qs] using this
theorem Shr.sum {a : Int} {l : List Int} (h : Shr.may a l) : (Shr.sh a l).sum = a:=by
 have ho:=Shr.order h;have hl:=Shr.left_in h;have e : Shr.sh a l = Shr.inc (Shr.qs a l.sum l) ((Shr.ord a l).take (Shr.left a l).toNat):=rfl;rw [e,Shr.inc_sum]
 ·rw [List.length_take,ho.2.2.2]
  unfold Shr.left
  omega
 ·intro x hx;have:=Srt.mem_upto.mp (ho.1.mem_iff.mp (List.mem_of_mem_take hx));simpa [Shr.qs] using this
/-- an earlier place with as much left is ahead -/
theorem Shr.ahead {a : Int} {l : List Int} (h : Shr.may a l) (i j : Nat) (hij : i < j) (hj : j < l.length) (he : rd (Shr.rs a l.sum l) (i : Int) = rd (Shr.rs a l.sum l) (j : Int)) (n : Nat) (hm : (j : Int) ∈ (Shr.ord a l).take n) : (i : Int) ∈ (Shr.ord a l).take n:=by
 have ho:=Shr.order h;obtain ⟨p,hp,hpe⟩:=List.mem_iff_getElem.mp hm;have hp' : p < n∧p < (Shr.ord a l).length:=by simp at hp;omega
 have hi : (i : Int) ∈ Shr.ord a l:=ho.1.mem_iff.mpr (Srt.mem_upto.mpr ⟨by omega,by omega⟩);obtain ⟨q,hq,hqe⟩:=List.mem_iff_getElem.mp hi;rw [List.getElem_take] at hpe
 have hqp : q < p:=by
  refine Classical.byContradiction fun hn=>?_
  rcases Nat.lt_or_ge p q with h1|h1
  ·have:=(List.pairwise_iff_getElem.mp ho.2.1) p q hp'.2 hq h1;rw [hpe,hqe] at this
   unfold Srt.T at this
   omega
  ·have : p = q:=by omega
   subst this;rw [hpe] at hqe
   omega
 refine List.mem_iff_getElem.mpr ⟨q,by simp;omega,?_⟩;rw [List.getElem_take]
 exact hqe

/-! ### trivetlaw03_up: function 9 -/
def trivetlaw03_up.f (k : Nat)  : Option (Bool):=(split_Shares.f k 100 (([1,1,1] : List Int))).bind fun g=>(if g.2.isNone = true then (if (g.1.length : Int) = 3 then (if 0 < (g.1.length : Int) then (if (rd g.1 0) = 34 then (if 1 < (g.1.length : Int) then (if (rd g.1 1) = 33 then (if 2 < (g.1.length : Int) then (some ((rd g.1 2) == 33)) else (none)) else (some false)) else (none)) else (some false)) else (none)) else (some false)) else (some false))
set_option maxHeartbeats 8000000 in
set_option maxRecDepth 100000 in
theorem trivetlaw03_up.calls (k : Nat)  (r : Bool) (w : World) (h : trivetlaw03_up.f k  = some r) :
  Calls Try.prog 9 #[] w fun e w'=>e = .returned (.bool r)∧Below w.heap.size w w':=by
 have hu25:=Try.underlying25;have hu29:=Try.underlying29;have HB:=ka (Below.refl w.heap.size w);have H : ((split_Shares.f k 100 (([1,1,1] : List Int))).bind fun g=>(if g.2.isNone = true then (if (g.1.length : Int) = 3 then (if 0 < (g.1.length : Int) then (if (rd g.1 0) = 34 then (if 1 < (g.1.length : Int) then (if (rd g.1 1) = 33 then (if 2 < (g.1.length : Int) then (some ((rd g.1 2) == 33)) else (none)) else (some false)) else (none)) else (some false)) else (none)) else (some false)) else (some false))) = some r:=h;clear h;obtain ⟨y431,hy431⟩ : ∃ y_ : List Int,y_ = (([1,1,1] : List Int)):=⟨_,rfl⟩
 replace H : ((split_Shares.f k 100 y431).bind fun g=>(if g.2.isNone = true then (if (g.1.length : Int) = 3 then (if 0 < (g.1.length : Int) then (if (rd g.1 0) = 34 then (if 1 < (g.1.length : Int) then (if (rd g.1 1) = 33 then (if 2 < (g.1.length : Int) then (some ((rd g.1 2) == 33)) else (none)) else (some false)) else (none)) else (some false)) else (none)) else (some false)) else (some false))) = some r:=by first|(rw [hy431];with_reducible exact H)|(have H2_:=(Option.bind_some _ _).symm.trans H;rw [hy431];with_reducible exact H2_)|(have H2_:=(Option.bind_some _ _).symm.trans H;with_reducible exact H2_)|with_reducible exact H|(rw [hy431];exact H)|exact H
 have Ny431:=ka hy431;clear hy431;replace H:=Option.bind_eq_some_iff.mp H;obtain ⟨⟨c,B⟩,E,H⟩:=H;replace H : (if B.isNone = true then (if (c.length : Int) = 3 then (if 0 < (c.length : Int) then (if (rd c 0) = 34 then (if 1 < (c.length : Int) then (if (rd c 1) = 33 then (if 2 < (c.length : Int) then (some ((rd c 2) == 33)) else (none)) else (some false)) else (none)) else (some false)) else (none)) else (some false)) else (some false)) = some r:=H;have z:=ka E;clear E;rcases B with _|q438
 ·have H1 : (if (c.length : Int) = 3 then (if 0 < (c.length : Int) then (if (rd c 0) = 34 then (if 1 < (c.length : Int) then (if (rd c 1) = 33 then (if 2 < (c.length : Int) then (some ((rd c 2) == 33)) else (none)) else (some false)) else (none)) else (some false)) else (none)) else (some false)) = some r:=by rw [if_pos (show (none : Option Int).isNone = true by rfl)] at H;exact H
  clear H;have H:=H1;clear H1;try simp only [errW_none,errW_some]
  by_cases c2 : (c.length : Int) = 3
  ·rw [if_pos c2] at H
   have c2b0 : ((c.length : Int) == 3) = true:=beq_iff_eq.mpr c2;have c2b1 : ((c.length : Int) != 3) = false:=bne_eq_false_iff_eq.mpr c2;clear c2;by_cases c3 : 0 < (c.length : Int)
   ·rw [if_pos c3] at H
    have c3b0 : decide (0 < (c.length : Int)) = true:=decide_eq_true c3;have c3b1 : decide (0 < c.length) = true:=decide_eq_true (by omega);clear c3;by_cases c4 : (rd c 0) = 34
    ·rw [if_pos c4] at H
     have c4b0 : ((rd c 0) == 34) = true:=beq_iff_eq.mpr c4;have c4b1 : ((rd c 0) != 34) = false:=bne_eq_false_iff_eq.mpr c4;clear c4;by_cases c5 : 1 < (c.length : Int)
     ·rw [if_pos c5] at H
      have c5b0 : decide (1 < (c.length : Int)) = true:=decide_eq_true c5;have c5b1 : decide (1 < c.length) = true:=decide_eq_true (by omega);clear c5;by_cases c6 : (rd c 1) = 33
      ·rw [if_pos c6] at H
       have c6b0 : ((rd c 1) == 33) = true:=beq_iff_eq.mpr c6;have c6b1 : ((rd c 1) != 33) = false:=bne_eq_false_iff_eq.mpr c6;clear c6;by_cases c7 : 2 < (c.length : Int)
       ·rw [if_pos c7] at H
        have c7b0 : decide (2 < (c.length : Int)) = true:=decide_eq_true c7;have c7b1 : decide (2 < c.length) = true:=decide_eq_true (by omega);clear c7;obtain rfl:=Option.some.inj H;go_enter Try.func9,Try.ntmps9
        go_wp2_with (first|((with_reducible refine gate_dst (N:=4) rfl ?_);(try (refine gate_guard (by rfl) ?_;dsimp only));refine Kd.R_lit (Kd.int .i64) _ 2 ?hg (N:=4) ?hd (xs:=([1,1,1] : List Int)) (inner:=[.int .i64 1,.int .i64 1,.int .i64 1]) (ok:=fun _=>True) (okp:=fun _=>True) ?hr ?hp (fun _ hk=>hk) trivial (Below.refl _ _) (Nat.le_refl _) (by simp) ?_;(case hd=>rfl);(case hg=>rfl);(case hr=>first|(go_simp;done)|(go_simp;rfl));(case hp=>exact (Reps.one (show Kd.M (Kd.int .i64) _ _ _ 1 [.int .i64 1] from rfl) (Reps.one (show Kd.M (Kd.int .i64) _ _ _ 1 [.int .i64 1] from rfl) (Reps.one (show Kd.M (Kd.int .i64) _ _ _ 1 [.int .i64 1] from rfl) (Reps.none _ _)))));intro t w8 ho9 hb hg_ hnew_;clear hg_ hnew_;(first|rw [← Ny431.out] at ho9|(simp only [Int.reduceToNat] at ho9;rw [← Ny431.out] at ho9));have d:=ka (Kd.R_lower ho9 (below_size (kw HB.out)));replace HB:=ka (below_step (kw HB.out) hb);clear hb ho9;obtain ⟨F,G,I⟩:=Kd.R_slice d.out;subst I)|((with_reducible refine gate_callee (f:=10) rfl ?_);refine kg (some 5) rfl rfl Try.func10 (by kernel_rfl) rfl #[.int .i64 100,.slice F y431.length G] rfl ?_;(with_reducible refine (split_Shares.calls k 100 _ _ y431 c none _ ?side1 ?side2 z.out).mono ?_);(case side1=>repeat (first|exact (Kd.R_reads' d.out).2.2|(with_reducible refine Kd.C_alloc ?_ _)|(with_reducible refine Kd.C_drewN ?_ _)|(with_reducible refine Kd.C_drew ?_)));(case side2=>exact (Kd.R_reads' d.out).2.1);rintro e b7 ⟨u,rfl,ho0,hb⟩;refine ⟨_,rfl,?_⟩;have m:=ka (Kd.R_lower (Kd.R_new' ho0 (Kd.R_lt (kr d.out))) (below_size (kw HB.out)));replace d:=ka (Kd.R_elder' (kr d.out) (Kd.R_base ho0) hb);replace HB:=ka (below_step (kw HB.out) hb);(try clear hb);(try clear hb2);(try clear hk);(try clear hi);(try clear ho0);(try simp only [errW_none,errW_some]);obtain ⟨a7,a8,J⟩:=Kd.R_slice m.out;subst J;have p439 : 0≤(0 : Int):=(by omega);have q439 : 0 < (c.length : Int):=of_decide_eq_true (by first|(with_reducible assumption)|assumption);obtain ⟨ad439,e439,hx439_0⟩:=Kd.at_int (Kd.R_reads' m.out).2.2 0 p439 q439;cases e439;have qi439 : (0 < c.length) = True:=eq_true (by omega);(try rw [show ((0 : Int)).toNat = 0 from rfl] at hx439_0);(try rw [Addr.add_zero'] at hx439_0);replace p439:=eq_true p439;replace q439:=eq_true q439;have p440 : 0≤(1 : Int):=(by omega);have q440 : 1 < (c.length : Int):=of_decide_eq_true (by first|(with_reducible assumption)|assumption);obtain ⟨ad440,e440,hx440_0⟩:=Kd.at_int (Kd.R_reads' m.out).2.2 1 p440 q440;obtain rfl : ad439 = ad440:=(by injection e440);(try simp only [show (1 : Int).toNat = 1 from rfl,Nat.reduceMul,Nat.reduceEqDiff,Go.Addr.add,↓reduceIte] at hx440_0);have qi440 : (1 < c.length) = True:=eq_true (by omega);(try rw [show ((1 : Int)).toNat = 1 from rfl] at hx440_0);replace p440:=eq_true p440;replace q440:=eq_true q440;have p441 : 0≤(2 : Int):=(by omega);have q441 : 2 < (c.length : Int):=of_decide_eq_true (by first|(with_reducible assumption)|assumption);obtain ⟨ad441,e441,hx441_0⟩:=Kd.at_int (Kd.R_reads' m.out).2.2 2 p441 q441;obtain rfl : ad439 = ad441:=(by injection e441);(try simp only [show (2 : Int).toNat = 2 from rfl,Nat.reduceMul,Nat.reduceEqDiff,Go.Addr.add,↓reduceIte] at hx441_0);have qi441 : (2 < c.length) = True:=eq_true (by omega);(try rw [show ((2 : Int)).toNat = 2 from rfl] at hx441_0);replace p441:=eq_true p441;replace q441:=eq_true q441))
        go_ret
        exact ⟨by first|rfl|(simp [errW_none,errW_some] <;> rfl)|(simp [*,errW_none,errW_some] <;> rfl),by repeat (first|(with_reducible first|exact HB.out|apply kc1|apply kc2|apply kc3)|exact HB.out)⟩
       ·rw [if_neg c7] at H
        exact absurd H (by simp)
      ·rw [if_neg c6] at H
       have c6b0 : ((rd c 1) == 33) = false:=beq_eq_false_iff_ne.mpr c6;have c6b1 : ((rd c 1) != 33) = true:=bne_iff_ne.mpr c6;obtain rfl:=Option.some.inj H;go_enter Try.func9,Try.ntmps9
       go_wp2_with (first|((with_reducible refine gate_dst (N:=4) rfl ?_);(try (refine gate_guard (by rfl) ?_;dsimp only));refine Kd.R_lit (Kd.int .i64) _ 2 ?hg (N:=4) ?hd (xs:=([1,1,1] : List Int)) (inner:=[.int .i64 1,.int .i64 1,.int .i64 1]) (ok:=fun _=>True) (okp:=fun _=>True) ?hr ?hp (fun _ hk=>hk) trivial (Below.refl _ _) (Nat.le_refl _) (by simp) ?_;(case hd=>rfl);(case hg=>rfl);(case hr=>first|(go_simp;done)|(go_simp;rfl));(case hp=>exact (Reps.one (show Kd.M (Kd.int .i64) _ _ _ 1 [.int .i64 1] from rfl) (Reps.one (show Kd.M (Kd.int .i64) _ _ _ 1 [.int .i64 1] from rfl) (Reps.one (show Kd.M (Kd.int .i64) _ _ _ 1 [.int .i64 1] from rfl) (Reps.none _ _)))));intro t b8 ho14 hb hg_ hnew_;clear hg_ hnew_;(first|rw [← Ny431.out] at ho14|(simp only [Int.reduceToNat] at ho14;rw [← Ny431.out] at ho14));have d:=ka (Kd.R_lower ho14 (below_size (kw HB.out)));replace HB:=ka (below_step (kw HB.out) hb);clear hb ho14;obtain ⟨L,O,Q⟩:=Kd.R_slice d.out;subst Q)|((with_reducible refine gate_callee (f:=10) rfl ?_);refine kg (some 5) rfl rfl Try.func10 (by kernel_rfl) rfl #[.int .i64 100,.slice L y431.length O] rfl ?_;(with_reducible refine (split_Shares.calls k 100 _ _ y431 c none _ ?side1 ?side2 z.out).mono ?_);(case side1=>repeat (first|exact (Kd.R_reads' d.out).2.2|(with_reducible refine Kd.C_alloc ?_ _)|(with_reducible refine Kd.C_drewN ?_ _)|(with_reducible refine Kd.C_drew ?_)));(case side2=>exact (Kd.R_reads' d.out).2.1);rintro e b9 ⟨u,rfl,ho0,hb⟩;refine ⟨_,rfl,?_⟩;have m:=ka (Kd.R_lower (Kd.R_new' ho0 (Kd.R_lt (kr d.out))) (below_size (kw HB.out)));replace d:=ka (Kd.R_elder' (kr d.out) (Kd.R_base ho0) hb);replace HB:=ka (below_step (kw HB.out) hb);(try clear hb);(try clear hb2);(try clear hk);(try clear hi);(try clear ho0);(try simp only [errW_none,errW_some]);obtain ⟨a9,b0,R⟩:=Kd.R_slice m.out;subst R;have p439 : 0≤(0 : Int):=(by omega);have q439 : 0 < (c.length : Int):=of_decide_eq_true (by first|(with_reducible assumption)|assumption);obtain ⟨ad439,e439,hx439_0⟩:=Kd.at_int (Kd.R_reads' m.out).2.2 0 p439 q439;cases e439;have qi439 : (0 < c.length) = True:=eq_true (by omega);(try rw [show ((0 : Int)).toNat = 0 from rfl] at hx439_0);(try rw [Addr.add_zero'] at hx439_0);replace p439:=eq_true p439;replace q439:=eq_true q439;have p440 : 0≤(1 : Int):=(by omega);have q440 : 1 < (c.length : Int):=of_decide_eq_true (by first|(with_reducible assumption)|assumption);obtain ⟨ad440,e440,hx440_0⟩:=Kd.at_int (Kd.R_reads' m.out).2.2 1 p440 q440;obtain rfl : ad439 = ad440:=(by injection e440);(try simp only [show (1 : Int).toNat = 1 from rfl,Nat.reduceMul,Nat.reduceEqDiff,Go.Addr.add,↓reduceIte] at hx440_0);have qi440 : (1 < c.length) = True:=eq_true (by omega);(try rw [show ((1 : Int)).toNat = 1 from rfl] at hx440_0);replace p440:=eq_true p440;replace q440:=eq_true q440))
       go_ret
       exact ⟨by first|rfl|(simp [errW_none,errW_some] <;> rfl)|(simp [*,errW_none,errW_some] <;> rfl),by repeat (first|(with_reducible first|exact HB.out|apply kc1|apply kc2|apply kc3)|exact HB.out)⟩
     ·rw [if_neg c5] at H
      exact absurd H (by simp)
    ·rw [if_neg c4] at H
     have c4b0 : ((rd c 0) == 34) = false:=beq_eq_false_iff_ne.mpr c4;have c4b1 : ((rd c 0) != 34) = true:=bne_iff_ne.mpr c4;obtain rfl:=Option.some.inj H;go_enter Try.func9,Try.ntmps9
     go_wp2_with (first|((with_reducible refine gate_dst (N:=4) rfl ?_);(try (refine gate_guard (by rfl) ?_;dsimp only));refine Kd.R_lit (Kd.int .i64) _ 2 ?hg (N:=4) ?hd (xs:=([1,1,1] : List Int)) (inner:=[.int .i64 1,.int .i64 1,.int .i64 1]) (ok:=fun _=>True) (okp:=fun _=>True) ?hr ?hp (fun _ hk=>hk) trivial (Below.refl _ _) (Nat.le_refl _) (by simp) ?_;(case hd=>rfl);(case hg=>rfl);(case hr=>first|(go_simp;done)|(go_simp;rfl));(case hp=>exact (Reps.one (show Kd.M (Kd.int .i64) _ _ _ 1 [.int .i64 1] from rfl) (Reps.one (show Kd.M (Kd.int .i64) _ _ _ 1 [.int .i64 1] from rfl) (Reps.one (show Kd.M (Kd.int .i64) _ _ _ 1 [.int .i64 1] from rfl) (Reps.none _ _)))));intro t c0 ho19 hb hg_ hnew_;clear hg_ hnew_;(first|rw [← Ny431.out] at ho19|(simp only [Int.reduceToNat] at ho19;rw [← Ny431.out] at ho19));have d:=ka (Kd.R_lower ho19 (below_size (kw HB.out)));replace HB:=ka (below_step (kw HB.out) hb);clear hb ho19;obtain ⟨S,V,W⟩:=Kd.R_slice d.out;subst W)|((with_reducible refine gate_callee (f:=10) rfl ?_);refine kg (some 5) rfl rfl Try.func10 (by kernel_rfl) rfl #[.int .i64 100,.slice S y431.length V] rfl ?_;(with_reducible refine (split_Shares.calls k 100 _ _ y431 c none _ ?side1 ?side2 z.out).mono ?_);(case side1=>repeat (first|exact (Kd.R_reads' d.out).2.2|(with_reducible refine Kd.C_alloc ?_ _)|(with_reducible refine Kd.C_drewN ?_ _)|(with_reducible refine Kd.C_drew ?_)));(case side2=>exact (Kd.R_reads' d.out).2.1);rintro e d2 ⟨u,rfl,ho0,hb⟩;refine ⟨_,rfl,?_⟩;have m:=ka (Kd.R_lower (Kd.R_new' ho0 (Kd.R_lt (kr d.out))) (below_size (kw HB.out)));replace d:=ka (Kd.R_elder' (kr d.out) (Kd.R_base ho0) hb);replace HB:=ka (below_step (kw HB.out) hb);(try clear hb);(try clear hb2);(try clear hk);(try clear hi);(try clear ho0);(try simp only [errW_none,errW_some]);obtain ⟨b1,b2,X⟩:=Kd.R_slice m.out;subst X;have p439 : 0≤(0 : Int):=(by omega);have q439 : 0 < (c.length : Int):=of_decide_eq_true (by first|(with_reducible assumption)|assumption);obtain ⟨ad439,e439,hx439_0⟩:=Kd.at_int (Kd.R_reads' m.out).2.2 0 p439 q439;cases e439;have qi439 : (0 < c.length) = True:=eq_true (by omega);(try rw [show ((0 : Int)).toNat = 0 from rfl] at hx439_0);(try rw [Addr.add_zero'] at hx439_0);replace p439:=eq_true p439;replace q439:=eq_true q439))
     go_ret
     exact ⟨by first|rfl|(simp [errW_none,errW_some] <;> rfl)|(simp [*,errW_none,errW_some] <;> rfl),by repeat (first|(with_reducible first|exact HB.out|apply kc1|apply kc2|apply kc3)|exact HB.out)⟩
   ·rw [if_neg c3] at H
    exact absurd H (by simp)
  ·rw [if_neg c2] at H
   have c2b0 : ((c.length : Int) == 3) = false:=beq_eq_false_iff_ne.mpr c2;have c2b1 : ((c.length : Int) != 3) = true:=bne_iff_ne.mpr c2;obtain rfl:=Option.some.inj H;go_enter Try.func9,Try.ntmps9
   go_wp2_with (first|((with_reducible refine gate_dst (N:=4) rfl ?_);(try (refine gate_guard (by rfl) ?_;dsimp only));refine Kd.R_lit (Kd.int .i64) _ 2 ?hg (N:=4) ?hd (xs:=([1,1,1] : List Int)) (inner:=[.int .i64 1,.int .i64 1,.int .i64 1]) (ok:=fun _=>True) (okp:=fun _=>True) ?hr ?hp (fun _ hk=>hk) trivial (Below.refl _ _) (Nat.le_refl _) (by simp) ?_;(case hd=>rfl);(case hg=>rfl);(case hr=>first|(go_simp;done)|(go_simp;rfl));(case hp=>exact (Reps.one (show Kd.M (Kd.int .i64) _ _ _ 1 [.int .i64 1] from rfl) (Reps.one (show Kd.M (Kd.int .i64) _ _ _ 1 [.int .i64 1] from rfl) (Reps.one (show Kd.M (Kd.int .i64) _ _ _ 1 [.int .i64 1] from rfl) (Reps.none _ _)))));intro t d3 ho24 hb hg_ hnew_;clear hg_ hnew_;(first|rw [← Ny431.out] at ho24|(simp only [Int.reduceToNat] at ho24;rw [← Ny431.out] at ho24));have d:=ka (Kd.R_lower ho24 (below_size (kw HB.out)));replace HB:=ka (below_step (kw HB.out) hb);clear hb ho24;obtain ⟨Y,Z,a1⟩:=Kd.R_slice d.out;subst a1)|((with_reducible refine gate_callee (f:=10) rfl ?_);refine kg (some 5) rfl rfl Try.func10 (by kernel_rfl) rfl #[.int .i64 100,.slice Y y431.length Z] rfl ?_;(with_reducible refine (split_Shares.calls k 100 _ _ y431 c none _ ?side1 ?side2 z.out).mono ?_);(case side1=>repeat (first|exact (Kd.R_reads' d.out).2.2|(with_reducible refine Kd.C_alloc ?_ _)|(with_reducible refine Kd.C_drewN ?_ _)|(with_reducible refine Kd.C_drew ?_)));(case side2=>exact (Kd.R_reads' d.out).2.1);rintro e d4 ⟨u,rfl,ho0,hb⟩;refine ⟨_,rfl,?_⟩;have m:=ka (Kd.R_lower (Kd.R_new' ho0 (Kd.R_lt (kr d.out))) (below_size (kw HB.out)));replace d:=ka (Kd.R_elder' (kr d.out) (Kd.R_base ho0) hb);replace HB:=ka (below_step (kw HB.out) hb);(try clear hb);(try clear hb2);(try clear hk);(try clear hi);(try clear ho0);(try simp only [errW_none,errW_some]);obtain ⟨b3,b4,a2⟩:=Kd.R_slice m.out;subst a2))
   go_ret
   exact ⟨by first|rfl|(simp [errW_none,errW_some] <;> rfl)|(simp [*,errW_none,errW_some] <;> rfl),by repeat (first|(with_reducible first|exact HB.out|apply kc1|apply kc2|apply kc3)|exact HB.out)⟩
 ·have H1 : (some false) = some r:=by rw [if_neg (show ¬ (some q438).isNone = true by simp)] at H;exact H
  clear H;have H:=H1;clear H1;try simp only [errW_none,errW_some]
  obtain rfl:=Option.some.inj H;go_enter Try.func9,Try.ntmps9
  go_wp2_with (first|((with_reducible refine gate_dst (N:=4) rfl ?_);(try (refine gate_guard (by rfl) ?_;dsimp only));refine Kd.R_lit (Kd.int .i64) _ 2 ?hg (N:=4) ?hd (xs:=([1,1,1] : List Int)) (inner:=[.int .i64 1,.int .i64 1,.int .i64 1]) (ok:=fun _=>True) (okp:=fun _=>True) ?hr ?hp (fun _ hk=>hk) trivial (Below.refl _ _) (Nat.le_refl _) (by simp) ?_;(case hd=>rfl);(case hg=>rfl);(case hr=>first|(go_simp;done)|(go_simp;rfl));(case hp=>exact (Reps.one (show Kd.M (Kd.int .i64) _ _ _ 1 [.int .i64 1] from rfl) (Reps.one (show Kd.M (Kd.int .i64) _ _ _ 1 [.int .i64 1] from rfl) (Reps.one (show Kd.M (Kd.int .i64) _ _ _ 1 [.int .i64 1] from rfl) (Reps.none _ _)))));intro t d5 ho29 hb hg_ hnew_;clear hg_ hnew_;(first|rw [← Ny431.out] at ho29|(simp only [Int.reduceToNat] at ho29;rw [← Ny431.out] at ho29));have d:=ka (Kd.R_lower ho29 (below_size (kw HB.out)));replace HB:=ka (below_step (kw HB.out) hb);clear hb ho29;obtain ⟨a3,a4,a5⟩:=Kd.R_slice d.out;subst a5)|((with_reducible refine gate_callee (f:=10) rfl ?_);refine kg (some 5) rfl rfl Try.func10 (by kernel_rfl) rfl #[.int .i64 100,.slice a3 y431.length a4] rfl ?_;(with_reducible refine (split_Shares.calls k 100 _ _ y431 c (some q438) _ ?side1 ?side2 z.out).mono ?_);(case side1=>repeat (first|exact (Kd.R_reads' d.out).2.2|(with_reducible refine Kd.C_alloc ?_ _)|(with_reducible refine Kd.C_drewN ?_ _)|(with_reducible refine Kd.C_drew ?_)));(case side2=>exact (Kd.R_reads' d.out).2.1);rintro e d6 ⟨u,rfl,ho0,hb⟩;refine ⟨_,rfl,?_⟩;have m:=ka (Kd.R_lower (Kd.R_new' ho0 (Kd.R_lt (kr d.out))) (below_size (kw HB.out)));replace d:=ka (Kd.R_elder' (kr d.out) (Kd.R_base ho0) hb);replace HB:=ka (below_step (kw HB.out) hb);(try clear hb);(try clear hb2);(try clear hk);(try clear hi);(try clear ho0);(try simp only [errW_none,errW_some])))
  go_ret
  exact ⟨by first|rfl|(simp [errW_none,errW_some] <;> rfl)|(simp [*,errW_none,errW_some] <;> rfl),by repeat (first|(with_reducible first|exact HB.out|apply kc1|apply kc2|apply kc3)|exact HB.out)⟩

/-! ### trivetlaw03_up: function 9,its laws -/
theorem trivetlaw03_up.num (k : Nat) (hk : 2000≤k) : trivetlaw03_up.f k = some true:=by
 unfold trivetlaw03_up.f
 rw [split_Shares.num k 100 [1,1,1] (by decide) (by decide) (by decide) hk,Option.bind_some,Shr.up]
 decide

/-! ### trivetref03_May: function 11 -/
mutual
def trivetref03_May.j0 : Nat→List Int→Bool→Option (Bool)
 | 0,_,_=>none
 | k + 1,x1,x22=>if x22 = true then (some false) else (trivetref03_May.l0 k x1 false 0)
def trivetref03_May.l0 : Nat→List Int→Bool→Int→Option (Bool)
 | 0,_,_,_=>none
 | k + 1,x1,x5,x6=>if x6 < (x1.length : Int) then (if 0≤x6 then (if (rd x1 x6) < 0 then (some false) else (if (rd x1 x6) > 10000000000000 then (some false) else (if x5 = true then (trivetref03_May.l0 k x1 true (wrap64 (x6 + 1))) else (trivetref03_May.l0 k x1 (decide ((rd x1 x6) > 0)) (wrap64 (x6 + 1)))))) else (none)) else (some x5)
end
def trivetref03_May.f (k : Nat) (a0 : Int) (l1 : List Int) : Option (Bool):=if a0 < 0 then (trivetref03_May.j0 k l1 true) else (if a0 > 10000000000000 then (trivetref03_May.j0 k l1 true) else (if (l1.length : Int) = 0 then (trivetref03_May.j0 k l1 true) else (trivetref03_May.j0 k l1 (decide ((l1.length : Int) > 480)))))
set_option maxHeartbeats 8000000 in
set_option maxRecDepth 100000 in
theorem trivetref03_May.calls (k : Nat) (a0 : Int) (z : Option Addr) (c1 : Nat) (l1 : List Int) (r : Bool) (w : World) (hr1 : Kd.C (Kd.int .i64) w z l1.length l1) (hc1 : l1.length≤c1) (h : trivetref03_May.f k a0 l1 = some r) :
  Calls Try.prog 11 #[.int .i64 a0,.slice z l1.length c1] w fun e w'=>e = .returned (.bool r)∧Drawn0 w w':=by
 have HR1:=ka hr1;have d7:=ka hc1;clear hr1 hc1;have H : (if a0 < 0 then (trivetref03_May.j0 k l1 true) else (if a0 > 10000000000000 then (trivetref03_May.j0 k l1 true) else (if (l1.length : Int) = 0 then (trivetref03_May.j0 k l1 true) else (trivetref03_May.j0 k l1 (decide ((l1.length : Int) > 480)))))) = some r:=h;clear h;have D:=ka H;clear H;go_enter Try.func11,Try.ntmps11
 go_upto_region 1 with (fail)
 go_cut [22] (fun a6 wc=>∃ (kq : Nat) (x22_2 : Bool),a6 = .bool x22_2∧Aside0 (trivetref03_May.j0 kq l1 x22_2 = some r)∧Aside0 (kq≤k)∧Drawn0 w wc)
 case first=>
  have H:=D.out;clear D;by_cases c4 : a0 < 0
  ·rw [if_pos c4] at H
   have c4b0 : decide (a0 < 0) = true:=decide_eq_true c4;clear c4;(first|rw [c4b0]|(simp only [i64_w,i32_w];rw [c4b0])|skip);have H':=ka H;clear H;go_wp2
   go_meet
   case rel=>exact ⟨_,(true),(by first|rfl|(simp;done)|(simp [*];done)),H',⟨by first|omega|exact Nat.le_refl _⟩,by repeat (first|exact Drawn0.refl _|apply Drawn0.step)⟩
  ·rw [if_neg c4] at H
   have c4b0 : decide (a0 < 0) = false:=decide_eq_false c4;clear c4;(first|rw [c4b0]|(simp only [i64_w,i32_w];rw [c4b0])|skip);by_cases c5 : a0 > 10000000000000
   ·rw [if_pos c5] at H
    have c5b0 : decide (10000000000000 < a0) = true:=decide_eq_true c5;clear c5;have H':=ka H;clear H;go_wp2
    go_meet
    case rel=>exact ⟨_,(true),(by first|rfl|(simp;done)|(simp [*];done)),H',⟨by first|omega|exact Nat.le_refl _⟩,by repeat (first|exact Drawn0.refl _|apply Drawn0.step)⟩
   ·rw [if_neg c5] at H
    have c5b0 : decide (10000000000000 < a0) = false:=decide_eq_false c5;clear c5;by_cases c6 : (l1.length : Int) = 0
    ·rw [if_pos c6] at H
     have c6b0 : ((l1.length : Int) == 0) = true:=beq_iff_eq.mpr c6;have c6b1 : ((l1.length : Int) != 0) = false:=bne_eq_false_iff_eq.mpr c6;clear c6;have H':=ka H;clear H;go_wp2
     go_meet
     case rel=>exact ⟨_,(true),(by first|rfl|(simp;done)|(simp [*];done)),H',⟨by first|omega|exact Nat.le_refl _⟩,by repeat (first|exact Drawn0.refl _|apply Drawn0.step)⟩
    ·rw [if_neg c6] at H
     have c6b0 : ((l1.length : Int) == 0) = false:=beq_eq_false_iff_ne.mpr c6;have c6b1 : ((l1.length : Int) != 0) = true:=bne_iff_ne.mpr c6;have c6b2 : ¬ (l1 = []):=fun h_=>c6 (by rw [h_];rfl)
     have H':=ka H;clear H;go_wp2
     go_meet
     case rel=>exact ⟨_,(decide ((l1.length : Int) > 480)),(by first|rfl|(simp;done)|(simp [*];done)),H',⟨by first|omega|exact Nat.le_refl _⟩,by repeat (first|exact Drawn0.refl _|apply Drawn0.step)⟩
 case rest=>
  clear D;try clear c1
  try clear p2
  try clear c4
  try clear c4b0
  try clear c5
  try clear c5b0
  try clear c6
  try clear c6b0
  try clear c6b1
  try clear c6b2
  obtain ⟨kq,x22_2,rfl,HA,A,⟨mc2,rfl⟩⟩:=hcut;cases kq with
  | zero=>exact absurd HA.out (by simp [trivetref03_May.j0])
  | succ kj2=>
   have H:=HA.out;clear HA;simp only [trivetref03_May.j0] at H
   by_cases c7 : x22_2 = true
   ·subst c7;have H1 : (some false) = some r:=by rw [if_pos rfl] at H;exact H
    clear H;have H:=H1;clear H1;obtain rfl:=Option.some.inj H;go_wp2
    go_ret
    exact ⟨by first|rfl|(simp;done)|(simp [*];done),by repeat (first|exact Drawn0.refl _|apply Drawn0.step)⟩
   ·replace c7:=Bool.eq_false_iff.mpr c7;subst c7;have H1 : (trivetref03_May.l0 kj2 l1 false 0) = some r:=by rw [if_neg (show ¬ (false = true) by decide)] at H;exact H
    clear H;have H:=H1;clear H1;have H':=ka H;clear H;go_wp2
    (try simp only [Act.put,List.setIfInBounds_toArray,List.set_cons_zero,List.set_cons_succ]);go_loopg [5,6] kj2 (fun kq v5 v6 w'=>∃ (x5_2 : Bool) (x6_2 : Int),v5 = .bool x5_2∧v6 = .int .i64 x6_2∧Aside0 (trivetref03_May.l0 kq l1 x5_2 x6_2 = some r)∧Aside0 (kq≤kj2)∧Drawn0 w w')
    case atStart=>exact ⟨(false),(0),(by first|rfl|(simp;done)|(simp [*];done)),(by first|rfl|(simp;done)|(simp [*];done)),H',⟨Nat.le_refl _⟩,by repeat (first|exact Drawn0.refl _|apply Drawn0.step)⟩
    case round=>
     clear H';try clear c1
     try clear c2
     try clear p2
     try clear c4
     try clear c4b0
     try clear c5
     try clear c5b0
     try clear c6
     try clear c6b0
     try clear c6b1
     try clear c6b2
     try clear c7
     try clear p2
     obtain ⟨x5_2,x6_2,rfl,rfl,HA,HK2,⟨m2,rfl⟩⟩:=hrel;cases gk with
     | zero=>exact absurd HA.out (by simp [trivetref03_May.l0])
     | succ k2=>
      have H:=HA.out;clear HA;simp only [trivetref03_May.l0] at H
      by_cases c8 : x6_2 < (l1.length : Int)
      ·rw [if_pos c8] at H
       have c8b0 : decide (x6_2 < (l1.length : Int)) = true:=decide_eq_true c8;clear c8;by_cases c9 : 0≤x6_2
       ·rw [if_pos c9] at H
        have c9b0 : decide (0≤x6_2) = true:=decide_eq_true c9;clear c9;by_cases c10 : (rd l1 x6_2) < 0
        ·rw [if_pos c10] at H
         have c10b0 : decide ((rd l1 x6_2) < 0) = true:=decide_eq_true c10;clear c10;obtain rfl:=Option.some.inj H;have p442 : 0≤(x6_2 : Int):=of_decide_eq_true (by first|(with_reducible assumption)|assumption);have q442 : x6_2 < (l1.length : Int):=of_decide_eq_true (by first|(with_reducible assumption)|assumption);obtain ⟨ad442,e442,hx442_0⟩:=Kd.at_int HR1.out x6_2 p442 q442;cases e442
         replace p442:=eq_true p442;replace q442:=eq_true q442;go_wp2
         go_ret
         exact ⟨by first|rfl|(simp;done)|(simp [*];done),by repeat (first|exact Drawn0.refl _|apply Drawn0.step)⟩
        ·rw [if_neg c10] at H
         have c10b0 : decide ((rd l1 x6_2) < 0) = false:=decide_eq_false c10;clear c10;by_cases c11 : (rd l1 x6_2) > 10000000000000
         ·rw [if_pos c11] at H
          have c11b0 : decide (10000000000000 < (rd l1 x6_2)) = true:=decide_eq_true c11;clear c11;obtain rfl:=Option.some.inj H;have p442 : 0≤(x6_2 : Int):=of_decide_eq_true (by first|(with_reducible assumption)|assumption);have q442 : x6_2 < (l1.length : Int):=of_decide_eq_true (by first|(with_reducible assumption)|assumption);obtain ⟨ad442,e442,hx442_0⟩:=Kd.at_int HR1.out x6_2 p442 q442;cases e442
          replace p442:=eq_true p442;replace q442:=eq_true q442;have p443 : 0≤(x6_2 : Int):=of_decide_eq_true (by first|(with_reducible assumption)|assumption);have q443 : x6_2 < (l1.length : Int):=of_decide_eq_true (by first|(with_reducible assumption)|assumption);obtain ⟨ad443,e443,hx443_0⟩:=Kd.at_int HR1.out x6_2 p443 q443;obtain rfl : ad442 = ad443:=(by injection e443)
          replace p443:=eq_true p443;replace q443:=eq_true q443;go_wp2
          go_ret
          exact ⟨by first|rfl|(simp;done)|(simp [*];done),by repeat (first|exact Drawn0.refl _|apply Drawn0.step)⟩
         ·rw [if_neg c11] at H
          have c11b0 : decide (10000000000000 < (rd l1 x6_2)) = false:=decide_eq_false c11;clear c11;by_cases c12 : x5_2 = true
          ·subst c12;have H1 : (trivetref03_May.l0 k2 l1 true (wrap64 (x6_2 + 1))) = some r:=by rw [if_pos rfl] at H;exact H
           clear H;have H:=H1;clear H1;have H':=ka H;clear H;have p442 : 0≤(x6_2 : Int):=of_decide_eq_true (by first|(with_reducible assumption)|assumption);have q442 : x6_2 < (l1.length : Int):=of_decide_eq_true (by first|(with_reducible assumption)|assumption);obtain ⟨ad442,e442,hx442_0⟩:=Kd.at_int HR1.out x6_2 p442 q442;cases e442
           replace p442:=eq_true p442;replace q442:=eq_true q442;have p443 : 0≤(x6_2 : Int):=of_decide_eq_true (by first|(with_reducible assumption)|assumption);have q443 : x6_2 < (l1.length : Int):=of_decide_eq_true (by first|(with_reducible assumption)|assumption);obtain ⟨ad443,e443,hx443_0⟩:=Kd.at_int HR1.out x6_2 p443 q443;obtain rfl : ad442 = ad443:=(by injection e443)
           replace p443:=eq_true p443;replace q443:=eq_true q443;go_wp2
           go_roundg k2
           case measure=>have:=A.out;have:=HK2.out;omega
           case rel=>exact ⟨(true),(wrap64 (x6_2 + 1)),(by first|rfl|(simp;done)|(simp [*];done)),(by first|rfl|(simp;done)|(simp [*];done)),H',⟨by have:=A.out;have:=HK2.out;omega⟩,by repeat (first|exact Drawn0.refl _|apply Drawn0.step)⟩
          ·replace c12:=Bool.eq_false_iff.mpr c12;subst c12;have H1 : (trivetref03_May.l0 k2 l1 (decide ((rd l1 x6_2) > 0)) (wrap64 (x6_2 + 1))) = some r:=by rw [if_neg (show ¬ (false = true) by decide)] at H;exact H
           clear H;have H:=H1;clear H1;have H':=ka H;clear H;have p442 : 0≤(x6_2 : Int):=of_decide_eq_true (by first|(with_reducible assumption)|assumption);have q442 : x6_2 < (l1.length : Int):=of_decide_eq_true (by first|(with_reducible assumption)|assumption);obtain ⟨ad442,e442,hx442_0⟩:=Kd.at_int HR1.out x6_2 p442 q442;cases e442
           replace p442:=eq_true p442;replace q442:=eq_true q442;have p443 : 0≤(x6_2 : Int):=of_decide_eq_true (by first|(with_reducible assumption)|assumption);have q443 : x6_2 < (l1.length : Int):=of_decide_eq_true (by first|(with_reducible assumption)|assumption);obtain ⟨ad443,e443,hx443_0⟩:=Kd.at_int HR1.out x6_2 p443 q443;obtain rfl : ad442 = ad443:=(by injection e443)
           replace p443:=eq_true p443;replace q443:=eq_true q443;have p444 : 0≤(x6_2 : Int):=of_decide_eq_true (by first|(with_reducible assumption)|assumption);have q444 : x6_2 < (l1.length : Int):=of_decide_eq_true (by first|(with_reducible assumption)|assumption);obtain ⟨ad444,e444,hx444_0⟩:=Kd.at_int HR1.out x6_2 p444 q444;obtain rfl : ad442 = ad444:=(by injection e444)
           replace p444:=eq_true p444;replace q444:=eq_true q444;go_wp2
           go_roundg k2
           case measure=>have:=A.out;have:=HK2.out;omega
           case rel=>exact ⟨(decide ((rd l1 x6_2) > 0)),(wrap64 (x6_2 + 1)),(by first|rfl|(simp;done)|(simp [*];done)),(by first|rfl|(simp;done)|(simp [*];done)),H',⟨by have:=A.out;have:=HK2.out;omega⟩,by repeat (first|exact Drawn0.refl _|apply Drawn0.step)⟩
       ·rw [if_neg c9] at H
        exact absurd H (by simp)
      ·rw [if_neg c8] at H
       have c8b0 : decide (x6_2 < (l1.length : Int)) = false:=decide_eq_false c8;clear c8;obtain rfl:=Option.some.inj H;go_wp2
       go_ret
       exact ⟨by first|rfl|(simp;done)|(simp [*];done),by repeat (first|exact Drawn0.refl _|apply Drawn0.step)⟩

end Go.Proofs.Ytcpmfdagnchlbaa.P
