-- Written by a program of this session out of the translation of the seat: Lean functions and the proofs that the Go functions come to them.
import Derived.Test.YtghimjkoaldafaaPx0
import Derived.Test.YtghimjkoaldafaaPx1
import Derived.Test.YtghimjkoaldafaaPx2
import Derived.Test.YtghimjkoaldafaaPx4
import Derived.Test.YtghimjkoaldafaaPx5
namespace Go.Proofs.Ytghimjkoaldafaa.P
open Go.RowKit Go.Proofs.YtghimjkoaldafaaW.PrintWords Go.Proofs.YtghimjkoaldafaaW.PrintLast Go.Proofs.YtghimjkoaldafaaW.PrintMore
open Go.Proofs.Ytghimjkoaldafaa.P.Srt renaming upto → aa, srt → ak
open Go.Proofs.Ytghimjkoaldafaa.P.split_Shares renaming l1 → ab, l0 → ag, f → ah, l2 → ai, j0 → aj
open Go.Proofs.Ytghimjkoaldafaa.P renaming errW_none → ac, errW_some → ad
open Option.some renaming injEq → ae
open Option renaming bind_some → af
set_option maxHeartbeats 8000000
set_option maxRecDepth 100000
attribute [local go_sem] max2_int min2_int max_two min_two max_three min_three max_four min_four   -- for this text's walks alone
set_option linter.unusedVariables false
set_option linter.unusedSimpArgs false
def Shr.qs (a all : Int) (l : List Int) : List Int:=l.map (fun w=>a * w / all)
def Shr.rs (a all : Int) (l : List Int) : List Int:=l.map (fun w=>a * w % all)
def Shr.inc (q o : List Int) : List Int:=o.foldl (fun q i=>q.set i.toNat (rd q i + 1)) q
/-- a total's shares by weights -/
def Shr.sh (a : Int) (l : List Int) : List Int:=Shr.inc (Shr.qs a l.sum l) ((ak (Shr.rs a l.sum l) (aa l.length)).take (a - (Shr.qs a l.sum l).sum).toNat)
def Shr.may (a : Int) (l : List Int) : Prop:=0≤a∧a≤10000000000000∧l.length≤480∧(∀ w ∈ l,0≤w∧w≤10000000000000)∧0 < l.sum
instance (a : Int) (l : List Int) : Decidable (Shr.may a l):=inferInstanceAs (Decidable (_∧_∧_∧_∧_))
def Shr.res (a : Int) (l : List Int) : List Int × Option Int:=if Shr.may a l then (Shr.sh a l,none) else ([],some 1)
theorem Shr.sum_nn : ∀ {l : List Int},(∀ w ∈ l,0≤w∧w≤10000000000000)→0≤l.sum∧l.sum≤10000000000000 * (l.length : Int)
 | [],_=>by simp
 | x :: r,h=>by
  have:=Shr.sum_nn (l:=r) (fun w hw=>h w (by simp [hw]));have:=h x (by simp);simp only [List.sum_cons,List.length_cons]
  omega
theorem Shr.le_sum : ∀ {l : List Int},(∀ w ∈ l,0≤w)→∀ w ∈ l,w≤l.sum
 | [],_,w,hw=>by simp at hw
 | x :: r,h,w,hw=>by
  have nn : ∀ {l : List Int},(∀ w ∈ l,0≤w)→0≤l.sum:=by
   intro l;induction l with
   | nil=>intro _;simp
   | cons y s ih=>intro hl;have:=hl y (by simp);have:=ih (fun w hw=>hl w (by simp [hw]));simp only [List.sum_cons];omega
  have hx:=h x (by simp);have hr:=nn (l:=r) (fun w hw=>h w (by simp [hw]));simp only [List.sum_cons]
  rcases List.mem_cons.mp hw with rfl|hw
  ·omega
  ·have:=Shr.le_sum (l:=r) (fun w hw=>h w (by simp [hw])) w hw;omega
theorem Shr.left_eq (a all : Int) (h : 0 < all) : ∀ l : List Int,a * l.sum = all * (Shr.qs a all l).sum + (Shr.rs a all l).sum
 | []=>by simp [Shr.qs,Shr.rs]
 | x :: r=>by
  have:=Shr.left_eq a all h r;have e:=Int.mul_ediv_add_emod (a * x) all;simp only [Shr.qs,Shr.rs,List.map_cons,List.sum_cons,Int.mul_add] at *
  omega
theorem Shr.rs_sum (a all : Int) (h : 0 < all) : ∀ l : List Int,0≤(Shr.rs a all l).sum∧(l≠[]→(Shr.rs a all l).sum < all * (l.length : Int))
 | []=>by simp [Shr.rs]
 | x :: r=>by
  obtain ⟨h1,h2⟩:=Shr.rs_sum a all h r;have e1:=Int.emod_nonneg (a * x) (show all≠0 by omega);have e2:=Int.emod_lt_of_pos (a * x) h;simp only [Shr.rs,List.map_cons,List.sum_cons,List.length_cons] at *
  refine ⟨by omega,fun _=>?_⟩
  have e3 : all * ((r.length + 1 : Nat) : Int) = all * (r.length : Int) + all:=by
   rw [show ((r.length + 1 : Nat) : Int) = (r.length : Int) + 1 by omega,Int.mul_add,Int.mul_one]
  rw [e3]
  cases r with
  | nil=>simp at *;omega
  | cons y s=>have:=h2 (by simp);omega
theorem Shr.left_in {a : Int} {l : List Int} (h : Shr.may a l) : 0≤a - (Shr.qs a l.sum l).sum∧a - (Shr.qs a l.sum l).sum < (l.length : Int):=by
 obtain ⟨h1,h2,h3,h4,h5⟩:=h;have hl : l≠[]:=by rintro rfl;simp at h5
 have e:=Shr.left_eq a l.sum h5 l;obtain ⟨r1,r2⟩:=Shr.rs_sum a l.sum h5 l;have r2:=r2 hl;have e2 : l.sum * (a - (Shr.qs a l.sum l).sum) = (Shr.rs a l.sum l).sum:=by rw [Int.mul_sub,Int.mul_comm l.sum a];omega
 constructor
 ·refine Classical.byContradiction fun hn=>?_
  have:=Int.mul_le_mul_of_nonneg_left (show a - (Shr.qs a l.sum l).sum≤-1 by omega) (Int.le_of_lt h5);omega
 ·refine Classical.byContradiction fun hn=>?_
  have:=Int.mul_le_mul_of_nonneg_left (show (l.length : Int)≤a - (Shr.qs a l.sum l).sum by omega) (Int.le_of_lt h5);omega
theorem split_Shares.sum (n : Nat) : ∀ (k i : Nat) (a : Int) (l : List Int),0≤a∧a≤10000000000000→l.length = i + n→l.length≤480→(∀ w ∈ l.take i,0≤w∧w≤10000000000000)→
  ag (k + n + 1) a l (l.take i).sum l (l.length : Int) i = if ∀ w ∈ l.drop i,0≤w∧w≤10000000000000 then (if l.sum = 0 then some ([],some 1) else ab k a l.sum (List.replicate l.length 0) a [] l (l.length : Int) 0 (List.replicate l.length 0)) else some ([],some 1):=by
 induction n with
 | zero=>
  intro k i a l ha hl hm hok;simp only [ag]
  rw [if_neg (by omega),List.drop_eq_nil_of_le (by omega),List.take_of_length_le (by omega)]
  rw [if_pos (show ∀ w ∈ ([] : List Int),0≤w∧w≤10000000000000 by simp)]
  by_cases hz : l.sum = 0
  ·rw [if_pos hz,if_pos hz]
  ·rw [if_neg hz,if_neg hz,if_pos (by omega),if_pos (by simp;omega)]
   rfl
 | succ n ih=>
  intro k i a l ha hl hm hok;have hget : l.getD i 0 = l[i]'(by omega):=by rw [List.getD_eq_getElem?_getD,List.getElem?_eq_getElem (by omega)];rfl
  have hdrop : l.drop i = l.getD i 0 :: l.drop (i + 1):=by rw [List.drop_eq_getElem_cons (by omega),hget]
  have htake : l.take (i + 1) = l.take i ++ [l.getD i 0]:=by rw [List.take_add_one,List.getElem?_eq_getElem (by omega),hget];rfl
  have hr : rd l (i : Int) = l.getD i 0:=rfl;have ih':=ih k (i + 1) a l ha (by omega) hm;have hs:=Shr.sum_nn hok;have hlt : (l.take i).length≤480:=by simp;omega
  rw [htake,U.sum_add] at ih'
  obtain ⟨K,hK⟩ : ∃ K,K = k + n + 1:=⟨_,rfl⟩
  rw [← hK] at ih'
  rw [show k + (n + 1) + 1 = K + 1 by omega]
  simp only [ag]
  rw [if_pos (by omega),if_pos (by omega),if_pos (by omega),hr,hdrop]
  generalize l.getD i 0 = x at *;by_cases h1 : x < 0
  ·rw [if_pos h1,if_neg (by intro h;have:=h x (by simp);omega)]
  ·rw [if_neg h1]
   by_cases h2 : x > 10000000000000
   ·rw [if_pos h2,if_neg (by intro h;have:=h x (by simp);omega)]
   ·rw [if_neg h2,M.wrapu_id (n:=x) (by omega) (by omega),M.wrapu_id (n:=(l.take i).sum + x) (by omega) (by omega),M.w64_id (n:=(i : Int) + 1) (by omega) (by omega)]
    have e : (l.take i).sum + [x].sum = (l.take i).sum + x:=by simp
    rw [e] at ih'
    have:=ih' (by
     intro w hw;rcases List.mem_append.mp hw with h|h
     ·exact hok w h
     ·simp at h;omega)
    rw [show ((i : Int) + 1) = ((i + 1 : Nat) : Int) by omega,this]
    have hiff : (∀ w ∈ l.drop (i + 1),0≤w∧w≤10000000000000) ↔ (∀ w ∈ x :: l.drop (i + 1),0≤w∧w≤10000000000000):=by
     constructor
     ·intro h w hw;rcases List.mem_cons.mp hw with rfl|hw
      ·omega
      ·exact h w hw
     ·intro h w hw;exact h w (by simp [hw])
    by_cases hc : ∀ w ∈ l.drop (i + 1),0≤w∧w≤10000000000000
    ·rw [if_pos hc,if_pos (hiff.mp hc)]
    ·rw [if_neg hc,if_neg (fun h=>hc (hiff.mpr h))]
theorem split_Shares.parts (n : Nat) : ∀ (k i : Nat) (a all : Int) (l : List Int),0≤a∧a≤10000000000000→l.length = i + n→l.length≤480→(∀ w ∈ l,0≤w∧w≤all)→0 < all∧all≤10000000000000 * 480→
  ab (k + n + 1) a all ((Shr.qs a all l).take i ++ List.replicate n 0) (a - ((Shr.qs a all l).take i).sum) (aa i) l (l.length : Int) i ((Shr.rs a all l).take i ++ List.replicate n 0) =
   ab (k + 1) a all (Shr.qs a all l) (a - (Shr.qs a all l).sum) (aa l.length) l (l.length : Int) (l.length : Int) (Shr.rs a all l):=by
 induction n with
 | zero=>
  intro k i a all l ha hl hm hok hall;have h1 : (Shr.qs a all l).take i = Shr.qs a all l:=List.take_of_length_le (by simp [Shr.qs];omega);have h2 : (Shr.rs a all l).take i = Shr.rs a all l:=List.take_of_length_le (by simp [Shr.rs];omega);have h3 : i = l.length:=by omega
  rw [h1,h2,h3]
  simp
 | succ n ih=>
  intro k i a all l ha hl hm hok hall;have hx:=hok (l.getD i 0) (by rw [List.getD_eq_getElem?_getD,List.getElem?_eq_getElem (by omega)];exact List.getElem_mem _);have ih':=ih k (i + 1) a all l ha (by omega) hm hok hall
  have q1 : (Shr.qs a all l).take (i + 1) = (Shr.qs a all l).take i ++ [a * l.getD i 0 / all]:=by
   rw [List.take_add_one]
   simp [Shr.qs,List.getD_eq_getElem?_getD,List.getElem?_eq_getElem (show i < l.length by omega)]
  have r1 : (Shr.rs a all l).take (i + 1) = (Shr.rs a all l).take i ++ [a * l.getD i 0 % all]:=by
   rw [List.take_add_one]
   simp [Shr.rs,List.getD_eq_getElem?_getD,List.getElem?_eq_getElem (show i < l.length by omega)]
  have u1 : aa (i + 1) = aa i ++ [(i : Int)]:=by simp [aa,List.range_succ]
  have lq : ((Shr.qs a all l).take i).length = i:=by simp [Shr.qs];omega
  have lr : ((Shr.rs a all l).take i).length = i:=by simp [Shr.rs];omega
  have hr : rd l (i : Int) = l.getD i 0:=rfl;rw [q1,r1,u1,U.sum_add] at ih'
  obtain ⟨K,hK⟩ : ∃ K,K = k + n + 1:=⟨_,rfl⟩
  rw [← hK] at ih'
  rw [show k + (n + 1) + 1 = K + 1 by omega]
  conv=>lhs;simp only [ab]
  rw [if_pos (by omega),if_pos (by omega),if_pos (by omega),hr]
  generalize l.getD i 0 = x at *;have p0 : 0≤a * x:=Int.mul_nonneg ha.1 hx.1;have p1 : a * x≤a * all:=Int.mul_le_mul_of_nonneg_left hx.2 ha.1;have d0 : 0≤a * x / all:=Int.ediv_nonneg p0 (by omega)
  have d1 : a * x / all≤a:=by
   have : a * x / all≤a * all / all:=Int.ediv_le_ediv hall.1 p1;rw [Int.mul_ediv_cancel _ (by omega)] at this
   exact this
  rw [M.wrapu_id (n:=a) (by omega) (by omega),M.wrapu_id (n:=x) (by omega) (by omega)]
  have hmul : bits_Mul64_s.f a x = some (a * x / 18446744073709551616,a * x % 18446744073709551616):=by
   unfold bits_Mul64_s.f
   rw [if_pos ⟨by omega,by omega,by omega,by omega⟩]
  have hdiv : bits_Div64_s.f (a * x / 18446744073709551616) (a * x % 18446744073709551616) all = some (a * x / all,a * x % all):=by
   have e1 : a * x≤10000000000000 * (10000000000000 * 480):=by
    have:=Int.mul_le_mul ha.2 (show x≤10000000000000 * 480 by omega) hx.1 (by decide);omega
   have e2 : a * x < all * 18446744073709551616:=by
    have : a * all≤10000000000000 * all:=Int.mul_le_mul_of_nonneg_right ha.2 (by omega);omega
   have e3 : a * x / 18446744073709551616 < all:=Int.ediv_lt_of_lt_mul (by decide) e2;have e4 : a * x / 18446744073709551616 * 18446744073709551616 + a * x % 18446744073709551616 = a * x:=by omega
   unfold bits_Div64_s.f
   rw [if_pos ⟨by omega,by omega,by omega,by omega,by omega⟩,e4]
  rw [hmul,af,hdiv,af]
  have hset : ∀ (p : List Int) (y : Int),p.length = i→(p ++ List.replicate (n + 1) 0).set (i : Int).toNat y = (p ++ [y]) ++ List.replicate n 0:=by
   intro p y hp;rw [show ((i : Int)).toNat = i from rfl,List.set_append_right _ _ (by omega),hp,Nat.sub_self,List.replicate_succ,List.set_cons_zero]
   simp
  rw [if_pos (by simp [lq];omega),if_pos (by simp [lr];omega),if_pos (by simp [aa];omega),hset _ _ lq,hset _ _ lr,M.w64_id (n:=a * x / all) (by omega) (by omega),M.w64_id (n:=(i : Int) + 1) (by omega) (by omega)]
  have hs0 : 0≤((Shr.qs a all l).take i).sum∧((Shr.qs a all l).take i).sum≤10000000000000 * 480:=by
   have : ∀ w ∈ (Shr.qs a all l).take i,0≤w∧w≤10000000000000:=by
    intro w hw;obtain ⟨y,hy,rfl⟩:=List.mem_map.mp (List.mem_of_mem_take hw);have hy:=hok y hy;have p0 : 0≤a * y:=Int.mul_nonneg ha.1 hy.1;have p1 : a * y≤a * all:=Int.mul_le_mul_of_nonneg_left hy.2 ha.1;have d1 : a * y / all≤a * all / all:=Int.ediv_le_ediv hall.1 p1;rw [Int.mul_ediv_cancel _ (by omega)] at d1
    have d0 : 0≤a * y / all:=Int.ediv_nonneg p0 (by omega);omega
   have h:=Shr.sum_nn this;rw [lq] at h
   omega
  rw [M.w64_id (by omega) (by omega)]
  have e : a - (((Shr.qs a all l).take i).sum + [a * x / all].sum) = a - ((Shr.qs a all l).take i).sum - a * x / all:=by simp;omega
  rw [e] at ih'
  exact ih'
theorem Shr.inc_len : ∀ (o q : List Int),(Shr.inc q o).length = q.length
 | [],q=>rfl
 | x :: o,q=>by
  have:=Shr.inc_len o (q.set x.toNat (rd q x + 1));simp only [Shr.inc,List.foldl_cons] at *
  rw [this]
  simp
theorem split_Shares.give (n : Nat) : ∀ (k i : Nat) (q o : List Int),o.length = i + n→o.length≤480→(∀ x ∈ o,0≤x∧x < (q.length : Int))→(∀ v ∈ q,-1000≤v∧v + n≤100000000000000)→
  ai (k + n + 1) q o (o.length : Int) i = some (Shr.inc q (o.drop i),none):=by
 induction n with
 | zero=>
  intro k i q o hl hm ho hq;simp only [ai]
  rw [if_neg (by omega),List.drop_eq_nil_of_le (by omega)]
  rfl
 | succ n ih=>
  intro k i q o hl hm ho hq;have hget : o.getD i 0 = o[i]'(by omega):=by rw [List.getD_eq_getElem?_getD,List.getElem?_eq_getElem (by omega)];rfl
  have hx:=ho (o.getD i 0) (by rw [hget];exact List.getElem_mem _);have hdrop : o.drop i = o.getD i 0 :: o.drop (i + 1):=by rw [List.drop_eq_getElem_cons (by omega),hget]
  have hr : rd o (i : Int) = o.getD i 0:=rfl
  have hv:=hq (rd q (o.getD i 0)) (by
   unfold rd
   rw [List.getD_eq_getElem?_getD,List.getElem?_eq_getElem (by omega)]
   exact List.getElem_mem _)
  obtain ⟨K,hK⟩ : ∃ K,K = k + n + 1:=⟨_,rfl⟩
  have ih':=fun q=>ih k (i + 1) q o (by omega) hm
  rw [← hK] at ih'
  rw [show k + (n + 1) + 1 = K + 1 by omega]
  simp only [ai]
  rw [if_pos (by omega),if_pos (by omega),if_pos (by omega),hr,hdrop,if_pos hx.1,if_pos hx.2,M.w64_id (n:=(i : Int) + 1) (by omega) (by omega),M.w64_id (n:=rd q (o.getD i 0) + 1) (by omega) (by omega)]
  refine ih' _ ?_ ?_
  ·intro x hx;rw [List.length_set]
   exact ho x hx
  ·intro v hv2;rcases List.mem_or_eq_of_mem_set hv2 with h|h
   ·have:=hq v h;omega
   ·subst h;omega
theorem split_Shares.num (k : Nat) (a : Int) (l : List Int) (ha : M.In a) (hl : ∀ w ∈ l,M.In w) (hm : l.length≤100000) (hk : 2000≤k) : ah k a l = some (Shr.res a l):=by
 have hj : ∀ (b : Bool),b = true→∀ k,1≤k→aj k a l b = some ([],some 1):=by
  intro b hb k hk;obtain ⟨j,rfl⟩ : ∃ j,k = j + 1:=⟨k - 1,by omega⟩
  subst hb;simp [aj]
 unfold ah Shr.res
 by_cases h1 : a < 0
 ·rw [if_pos h1,hj true rfl k (by omega),if_neg (by unfold Shr.may;omega)]
 ·rw [if_neg h1]
  by_cases h2 : a > 10000000000000
  ·rw [if_pos h2,hj true rfl k (by omega),if_neg (by unfold Shr.may;omega)]
  ·rw [if_neg h2]
   by_cases h3 : (l.length : Int) > 480
   ·rw [hj _ (decide_eq_true h3) k (by omega),if_neg (by unfold Shr.may;omega)]
   ·rw [decide_eq_false h3]
    obtain ⟨k0,hk0⟩ : ∃ k0,k = (k0 + l.length + 1) + 1:=⟨k - l.length - 2,by omega⟩
    rw [hk0]
    obtain ⟨K,hK⟩ : ∃ K,K = k0 + l.length + 1:=⟨_,rfl⟩
    have s0:=split_Shares.sum l.length k0 0 a l (by omega) (by omega) (by omega) (by simp);rw [← hK] at s0 ⊢
    simp only [aj]
    rw [if_neg (by decide)]
    have e0 : ag K a l 0 l (l.length : Int) 0 = _:=s0;rw [e0,List.drop_zero]
    by_cases h4 : ∀ w ∈ l,0≤w∧w≤10000000000000
    ·rw [if_pos h4]
     have hs:=Shr.sum_nn h4;by_cases h5 : l.sum = 0
     ·rw [if_pos h5,if_neg (by unfold Shr.may;omega)]
     ·have hmay : Shr.may a l:=⟨by omega,by omega,by omega,h4,by omega⟩
      have hleft:=Shr.left_in hmay;have hlen : 0 < l.length:=by omega
      rw [if_neg h5,if_pos hmay]
      obtain ⟨k1,hk1⟩ : ∃ k1,k0 = k1 + l.length + 1:=⟨k0 - l.length - 1,by omega⟩
      have hle : ∀ w ∈ l,0≤w∧w≤l.sum:=fun w hw=>⟨(h4 w hw).1,Shr.le_sum (fun w hw=>(h4 w hw).1) w hw⟩
      have p0:=split_Shares.parts l.length k1 0 a l.sum l (by omega) (by omega) (by omega) hle (by omega)
      have p1 : ab k0 a l.sum (List.replicate l.length 0) a [] l (l.length : Int) 0 (List.replicate l.length 0) = ab (k1 + 1) a l.sum (Shr.qs a l.sum l) (a - (Shr.qs a l.sum l).sum) (aa l.length) l (l.length : Int) (l.length : Int) (Shr.rs a l.sum l):=by
       rw [hk1]
       have:=p0;simp only [List.take_zero,List.nil_append,List.sum_nil,Int.sub_zero] at this
       exact this
      rw [p1]
      have lq : (Shr.qs a l.sum l).length = l.length:=by simp [Shr.qs]
      have lr : (Shr.rs a l.sum l).length = l.length:=by simp [Shr.rs]
      have hok:=Srt.ok_upto (r:=Shr.rs a l.sum l) (by omega) (by omega);have hsp:=Srt.spec (r:=Shr.rs a l.sum l) (by omega) (by omega);rw [lr] at hok hsp
      have lsrt:=hsp.1.length_eq;have lup : (aa l.length).length = l.length:=by simp [aa]
      rw [lup] at lsrt
      simp only [ab]
      rw [if_neg (by omega),if_pos (show Srt.ok _ _ = true from decide_eq_true hok),if_pos hleft.1,if_pos (by omega),af]
      have lt : ((ak (Shr.rs a l.sum l) (aa l.length)).take (a - (Shr.qs a l.sum l).sum).toNat).length≤480:=by simp;omega
      obtain ⟨o,hoo⟩ : ∃ o,o = (ak (Shr.rs a l.sum l) (aa l.length)).take (a - (Shr.qs a l.sum l).sum).toNat:=⟨_,rfl⟩
      have hres : Shr.sh a l = Shr.inc (Shr.qs a l.sum l) o:=by rw [hoo];rfl
      rw [hres]
      rw [← hoo] at lt ⊢
      obtain ⟨k2,hk2⟩ : ∃ k2,k1 = k2 + o.length + 1:=⟨k1 - o.length - 1,by omega⟩
      rw [hk2]
      have g0:=split_Shares.give o.length k2 0 (Shr.qs a l.sum l) o (Nat.zero_add _).symm lt (by
       intro x hx;rw [hoo] at hx
       have hx:=hsp.1.mem_iff.mp (List.mem_of_mem_take hx);obtain ⟨i,hi,rfl⟩:=List.mem_map.mp hx;have:=List.mem_range.mp hi;omega) (by
       intro v hv;obtain ⟨y,hy,rfl⟩:=List.mem_map.mp hv;have hy:=hle y hy;have p0 : 0≤a * y:=Int.mul_nonneg (by omega) hy.1;have p1 : a * y≤a * l.sum:=Int.mul_le_mul_of_nonneg_left hy.2 (by omega);have d1 : a * y / l.sum≤a * l.sum / l.sum:=Int.ediv_le_ediv (by omega) p1;rw [Int.mul_ediv_cancel _ (by omega)] at d1
       have d0 : 0≤a * y / l.sum:=Int.ediv_nonneg p0 (by omega);omega)
      exact g0
    ·rw [if_neg h4,if_neg (by unfold Shr.may;intro h;exact h4 h.2.2.2.1)]
theorem Shr.up : Shr.res 100 [1,1,1] = ([34,33,33],none):=by
 have e : ak [1,1,1] (aa 3) = [0,1,2]:=Srt.is (r:=[1,1,1]) (by decide) (by decide) (by decide) (by decide);have q : Shr.qs 100 3 [1,1,1] = [33,33,33]:=by decide
 have r : Shr.rs 100 3 [1,1,1] = [1,1,1]:=by decide
 have s : ([1,1,1] : List Int).sum = 3:=by decide
 have l : ([1,1,1] : List Int).length = 3:=rfl;unfold Shr.res Shr.sh
 rw [if_pos (by decide),s,q,r,l,e]
 decide
theorem Shr.res_len (a : Int) (l : List Int) : (Shr.res a l).1.length = if Shr.may a l then l.length else 0:=by
 unfold Shr.res
 split
 ·simp [Shr.sh,Shr.inc_len,Shr.qs]
 ·rfl
theorem Shr.rd_set (q : List Int) (x y : Int) (j : Nat) (hx : 0≤x∧x < (q.length : Int)) : rd (q.set x.toNat y) (j : Int) = if x = (j : Int) then y else rd q (j : Int):=by
 unfold rd
 simp only [List.getD_eq_getElem?_getD,Int.toNat_natCast]
 by_cases h : x = (j : Int)
 ·subst h;rw [if_pos rfl]
  simp only [Int.toNat_natCast]
  rw [List.getElem?_set_self (by omega)];rfl
 ·rw [if_neg h,List.getElem?_set_ne (by omega)]
theorem Shr.inc_get : ∀ (o q : List Int),o.Nodup→(∀ x ∈ o,0≤x∧x < (q.length : Int))→∀ j : Nat,rd (Shr.inc q o) (j : Int) = rd q (j : Int) + if (j : Int) ∈ o then 1 else 0
 | [],q,_,_,j=>by simp [Shr.inc]
 | x :: o,q,hn,hr,j=>by
  have hn':=List.nodup_cons.mp hn;have hx:=hr x (by simp);have ih:=Shr.inc_get o (q.set x.toNat (rd q x + 1)) hn'.2 (fun y hy=>by rw [List.length_set];exact hr y (by simp [hy])) j;have e : Shr.inc q (x :: o) = Shr.inc (q.set x.toNat (rd q x + 1)) o:=rfl;rw [e,ih,Shr.rd_set q x _ j hx]
  by_cases h : x = (j : Int)
  ·subst h;rw [if_pos rfl,if_neg hn'.1,if_pos (by simp)]
   omega
  ·rw [if_neg h]
   have : ((j : Int) ∈ x :: o) ↔ ((j : Int) ∈ o):=by
    constructor
    ·intro hm;rcases List.mem_cons.mp hm with h'|h'
     ·exact absurd h'.symm h
     ·exact h'
    ·intro hm;simp [hm]
   by_cases hm : (j : Int) ∈ o
   ·rw [if_pos hm,if_pos (this.mpr hm)]
   ·rw [if_neg hm,if_neg (fun h2=>hm (this.mp h2))]
theorem Shr.sum_set : ∀ (q : List Int) (i : Nat) (y : Int),i < q.length→(q.set i y).sum = q.sum - q.getD i 0 + y
 | [],i,y,h=>by simp at h
 | x :: q,0,y,h=>by simp;omega
 | x :: q,i + 1,y,h=>by
  have:=Shr.sum_set q i y (by simpa using h);simp only [List.set_cons_succ,List.sum_cons,this]
  simp
  omega
theorem Shr.inc_sum : ∀ (o q : List Int),(∀ x ∈ o,0≤x∧x < (q.length : Int))→(Shr.inc q o).sum = q.sum + o.length
 | [],q,_=>by simp [Shr.inc]
 | x :: o,q,hr=>by
  have hx:=hr x (by simp);have ih:=Shr.inc_sum o (q.set x.toNat (rd q x + 1)) (fun y hy=>by rw [List.length_set];exact hr y (by simp [hy]));have e : Shr.inc q (x :: o) = Shr.inc (q.set x.toNat (rd q x + 1)) o:=rfl;rw [e,ih,Shr.sum_set _ _ _ (by omega)]
  unfold rd
  simp only [List.length_cons]
  omega
def Shr.ord (a : Int) (l : List Int) : List Int:=ak (Shr.rs a l.sum l) (aa l.length)
def Shr.left (a : Int) (l : List Int) : Int:=a - (Shr.qs a l.sum l).sum
theorem Srt.mem_upto {n : Nat} {x : Int} : x ∈ aa n ↔ 0≤x∧x < (n : Int):=by
 unfold aa
 constructor
 ·intro h;obtain ⟨i,hi,rfl⟩:=List.mem_map.mp h;have:=List.mem_range.mp hi;omega
 ·intro h;exact List.mem_map.mpr ⟨x.toNat,List.mem_range.mpr (by omega),by omega⟩
theorem Shr.order {a : Int} {l : List Int} (h : Shr.may a l) : (Shr.ord a l).Perm (aa l.length)∧(Shr.ord a l).Pairwise (Srt.T (Shr.rs a l.sum l))∧(Shr.ord a l).Nodup∧(Shr.ord a l).length = l.length:=by
 have lr : (Shr.rs a l.sum l).length = l.length:=by simp [Shr.rs]
 have hl : 0 < l.length:=by
  cases l with
  | nil=>have:=h.2.2.2.2;simp at this
  | cons x r=>simp
 have hsp:=Srt.spec (r:=Shr.rs a l.sum l) (by omega) (by have:=h.2.2.1;omega);rw [lr] at hsp
 refine ⟨hsp.1,hsp.2,?_,?_⟩
 ·refine List.Pairwise.imp ?_ hsp.2;intro x y ht e;subst e;unfold Srt.T at ht
  omega
 ·have:=hsp.1.length_eq;rw [show (aa l.length).length = l.length by simp [aa]] at this
  exact this
theorem Shr.get {a : Int} {l : List Int} (h : Shr.may a l) (j : Nat) (hj : j < l.length) : rd (Shr.sh a l) (j : Int) = a * rd l (j : Int) / l.sum + if (j : Int) ∈ (Shr.ord a l).take (Shr.left a l).toNat then 1 else 0:=by
 have ho:=Shr.order h;have e : Shr.sh a l = Shr.inc (Shr.qs a l.sum l) ((Shr.ord a l).take (Shr.left a l).toNat):=rfl;rw [e,Shr.inc_get]
 ·congr 1
  simp [rd,Shr.qs,List.getD_eq_getElem?_getD,List.getElem?_eq_getElem hj]
 ·exact List.Pairwise.sublist (List.take_sublist _ _) ho.2.2.1
 ·intro x hx;have:=Srt.mem_upto.mp (ho.1.mem_iff.mp (List.mem_of_mem_take hx));simpa [Shr.qs] using this
theorem Shr.sum {a : Int} {l : List Int} (h : Shr.may a l) : (Shr.sh a l).sum = a:=by
 have ho:=Shr.order h;have hl:=Shr.left_in h;have e : Shr.sh a l = Shr.inc (Shr.qs a l.sum l) ((Shr.ord a l).take (Shr.left a l).toNat):=rfl;rw [e,Shr.inc_sum]
 ·rw [List.length_take,ho.2.2.2]
  unfold Shr.left
  omega
 ·intro x hx;have:=Srt.mem_upto.mp (ho.1.mem_iff.mp (List.mem_of_mem_take hx));simpa [Shr.qs] using this
/-- an earlier place with as much left is ahead -/
theorem Shr.ahead {a : Int} {l : List Int} (h : Shr.may a l) (i j : Nat) (hij : i < j) (hj : j < l.length) (he : rd (Shr.rs a l.sum l) (i : Int) = rd (Shr.rs a l.sum l) (j : Int)) (n : Nat) (hm : (j : Int) ∈ (Shr.ord a l).take n) : (i : Int) ∈ (Shr.ord a l).take n:=by
 have ho:=Shr.order h;obtain ⟨p,hp,hpe⟩:=List.mem_iff_getElem.mp hm;have hp' : p < n∧p < (Shr.ord a l).length:=by simp at hp;omega
 have hi : (i : Int) ∈ Shr.ord a l:=ho.1.mem_iff.mpr (Srt.mem_upto.mpr ⟨by omega,by omega⟩);obtain ⟨q,hq,hqe⟩:=List.mem_iff_getElem.mp hi;rw [List.getElem_take] at hpe
 have hqp : q < p:=by
  refine Classical.byContradiction fun hn=>?_
  rcases Nat.lt_or_ge p q with h1|h1
  ·have:=(List.pairwise_iff_getElem.mp ho.2.1) p q hp'.2 hq h1;rw [hpe,hqe] at this
   unfold Srt.T at this
   omega
  ·have : p = q:=by omega
   subst this;rw [hpe] at hqe
   omega
 refine List.mem_iff_getElem.mpr ⟨q,by simp;omega,?_⟩;rw [List.getElem_take]
 exact hqe
def pool_Part.f (k : Nat) (a0 : Int) (l1 : List Int) : Option (List Int × Option Int):=(ah k a0 l1).bind fun A=>(some (A.1,A.2))
theorem pool_Part.calls (k : Nat) (a0 : Int) (E : Option Addr) (c1 : Nat) (l1 : List Int) (r1 : List Int) (r2 : Option Int) (w : World) (hr1 : Kd.C (Kd.int .i64) w E l1.length l1) (hc1 : l1.length≤c1) (h : pool_Part.f k a0 l1 = some (r1,r2)) :
  Calls Try.prog 12 #[.int .i64 a0,.slice E l1.length c1] w fun e w'=>∃ v0_ : Value,e = .returned (.tuple #[v0_,errW r2])∧Kd.R (Kd.int .i64) 2 w' w.heap.size (fun _=>True) v0_ r1∧Below w.heap.size w w':=by
 have HR1:=ka hr1;have a3:=ka hc1;clear hr1 hc1;have HB:=ka (Below.refl w.heap.size w);have H : ((ah k a0 l1).bind fun A=>(some (A.1,A.2))) = some (r1,r2):=h;clear h;replace H:=Option.bind_eq_some_iff.mp H;obtain ⟨⟨I,J⟩,a4,H⟩:=H;replace H : (some (I,J)) = some (r1,r2):=H;have A3:=ka a4;clear a4;simp only [ae,Prod.mk.injEq] at H
 obtain ⟨rfl,rfl⟩:=H;go_enter Try.func12,Try.ntmps12
 go_wp2_with (first|((with_reducible refine gate_callee (f:=21) rfl ?_);refine kg (some 8) rfl rfl Try.func21 (by kernel_rfl) rfl #[.int .i64 a0,.slice E l1.length c1] rfl ?_;(with_reducible refine (split_Shares.calls k a0 _ _ l1 I J _ ?side1 ?side2 A3.out).mono ?_);(case side1=>repeat (first|exact HR1.out|with_reducible first|refine Kd.C_alloc ?_ _|refine Kd.C_drewN ?_ _|refine Kd.C_drew ?_));(case side2=>exact a3.out);rintro e w4 ⟨c9,rfl,ho0,hb⟩;refine ⟨_,rfl,?_⟩;have Z:=ka (Kd.R_lower ho0 (below_size (kw HB.out)));replace HB:=ka (below_step (kw HB.out) hb);(try clear hb ho0);(try simp only [ac,ad])))
 go_ret2
 exact ⟨_,by first|rfl|(simp [ac,ad] <;> rfl)|(simp [*,ac,ad] <;> rfl),by (with_reducible repeat (first|apply Kd.R_alloc|apply Kd.R_drewN|apply Kd.R_drew));exact Z.out,by repeat (first|(with_reducible first|exact HB.out|apply kc1|apply kc2|apply kc3)|exact HB.out)⟩
def trivetlaw14_Same.l0 : Nat→List Int→List Int→Int→Option (Bool)
 | 0,_,_,_=>none
 | k + 1,x0,x1,x5=>if x5 < (x0.length : Int) then (if 0≤x5 then (if x5 < (x1.length : Int) then (if (rd x0 x5) = (rd x1 x5) then (trivetlaw14_Same.l0 k x0 x1 (wrap64 (x5 + 1))) else (some false)) else (none)) else (none)) else (some true)
def trivetlaw14_Same.f (k : Nat) (l0 : List Int) (l1 : List Int) : Option (Bool):=if (l0.length : Int) = (l1.length : Int) then (trivetlaw14_Same.l0 k l0 l1 0) else (some false)
theorem trivetlaw14_Same.calls (k : Nat) (G : Option Addr) (c0 : Nat) (l0 : List Int) (E : Option Addr) (c1 : Nat) (l1 : List Int) (r : Bool) (w : World) (hr0 : Kd.C (Kd.int .i64) w G l0.length l0) (hc0 : l0.length≤c0) (hr1 : Kd.C (Kd.int .i64) w E l1.length l1) (hc1 : l1.length≤c1) (h : trivetlaw14_Same.f k l0 l1 = some r) :
  Calls Try.prog 13 #[.slice G l0.length c0,.slice E l1.length c1] w fun e w'=>e = .returned (.bool r)∧Drawn0 w w':=by
 have HR0:=ka hr0;have d7:=ka hc0;clear hr0 hc0;have HR1:=ka hr1;have a3:=ka hc1;clear hr1 hc1;have H : (if (l0.length : Int) = (l1.length : Int) then (trivetlaw14_Same.l0 k l0 l1 0) else (some false)) = some r:=h;clear h;by_cases c3 : (l0.length : Int) = (l1.length : Int)
 ·rw [if_pos c3] at H
  have c3b0 : ((l0.length : Int) == (l1.length : Int)) = true:=beq_iff_eq.mpr c3;have c3b1 : ((l0.length : Int) != (l1.length : Int)) = false:=bne_eq_false_iff_eq.mpr c3;have c3b2 : (l0.length == l1.length) = true:=by first|simpa using c3|(simp at c3 ⊢;omega)
  clear c3;have H':=ka H;clear H;go_enter Try.func13,Try.ntmps13
  go_wp2
  repeat (go_quiet (fail);try go_wp2)
  (try simp only [Act.put,List.setIfInBounds_toArray,List.set_cons_zero,List.set_cons_succ]);go_loopg [5] k (fun kq v5 w'=>∃ (x5_1 : Int),v5 = .int .i64 x5_1∧Aside0 (trivetlaw14_Same.l0 kq l0 l1 x5_1 = some r)∧Aside0 (kq≤k)∧Drawn0 w w')
  case atStart=>exact ⟨(0),(by first|rfl|(simp;done)|(simp [*];done)),H',⟨Nat.le_refl _⟩,by repeat (first|exact Drawn0.refl _|apply Drawn0.step)⟩
  case round=>
   clear H';try clear c1
   try clear c3
   try clear c3b0
   try clear c3b1
   try clear c3b2
   obtain ⟨x5_1,rfl,HA,HK1,⟨m1,rfl⟩⟩:=hrel;cases gk with
   | zero=>exact absurd HA.out (by simp [trivetlaw14_Same.l0])
   | succ k1=>
    have H:=HA.out;clear HA;simp only [trivetlaw14_Same.l0] at H
    by_cases c4 : x5_1 < (l0.length : Int)
    ·rw [if_pos c4] at H
     have c4b0 : decide (x5_1 < (l0.length : Int)) = true:=decide_eq_true c4;clear c4;by_cases c5 : 0≤x5_1
     ·rw [if_pos c5] at H
      have c5b0 : decide (0≤x5_1) = true:=decide_eq_true c5;clear c5;by_cases c6 : x5_1 < (l1.length : Int)
      ·rw [if_pos c6] at H
       have c6b0 : decide (x5_1 < (l1.length : Int)) = true:=decide_eq_true c6;clear c6;by_cases c7 : (rd l0 x5_1) = (rd l1 x5_1)
       ·rw [if_pos c7] at H
        have c7b0 : ((rd l0 x5_1) == (rd l1 x5_1)) = true:=beq_iff_eq.mpr c7;have c7b1 : ((rd l0 x5_1) != (rd l1 x5_1)) = false:=bne_eq_false_iff_eq.mpr c7;clear c7;have H':=ka H;clear H;have p482 : 0≤(x5_1 : Int):=of_decide_eq_true (by first|(with_reducible assumption)|assumption);have q482 : x5_1 < (l0.length : Int):=of_decide_eq_true (by first|(with_reducible assumption)|assumption);obtain ⟨ad482,e482,hx482_0⟩:=Kd.at_int HR0.out x5_1 p482 q482;cases e482
        replace p482:=eq_true p482;replace q482:=eq_true q482;have p483 : 0≤(x5_1 : Int):=of_decide_eq_true (by first|(with_reducible assumption)|assumption);have q483 : x5_1 < (l1.length : Int):=of_decide_eq_true (by first|(with_reducible assumption)|assumption);obtain ⟨ad483,e483,hx483_0⟩:=Kd.at_int HR1.out x5_1 p483 q483;cases e483
        replace p483:=eq_true p483;replace q483:=eq_true q483;go_wp2
        repeat (go_quiet (fail);try go_wp2)
        go_roundg k1
        case measure=>have:=HK1.out;omega
        case rel=>exact ⟨(wrap64 (x5_1 + 1)),(by first|rfl|(simp;done)|(simp [*];done)),H',⟨by have:=HK1.out;omega⟩,by repeat (first|exact Drawn0.refl _|apply Drawn0.step)⟩
       ·rw [if_neg c7] at H
        have c7b0 : ((rd l0 x5_1) == (rd l1 x5_1)) = false:=beq_eq_false_iff_ne.mpr c7;have c7b1 : ((rd l0 x5_1) != (rd l1 x5_1)) = true:=bne_iff_ne.mpr c7;obtain rfl:=Option.some.inj H;have p482 : 0≤(x5_1 : Int):=of_decide_eq_true (by first|(with_reducible assumption)|assumption);have q482 : x5_1 < (l0.length : Int):=of_decide_eq_true (by first|(with_reducible assumption)|assumption);obtain ⟨ad482,e482,hx482_0⟩:=Kd.at_int HR0.out x5_1 p482 q482;cases e482
        replace p482:=eq_true p482;replace q482:=eq_true q482;have p483 : 0≤(x5_1 : Int):=of_decide_eq_true (by first|(with_reducible assumption)|assumption);have q483 : x5_1 < (l1.length : Int):=of_decide_eq_true (by first|(with_reducible assumption)|assumption);obtain ⟨ad483,e483,hx483_0⟩:=Kd.at_int HR1.out x5_1 p483 q483;cases e483
        replace p483:=eq_true p483;replace q483:=eq_true q483;go_wp2
        repeat (go_quiet (fail);try go_wp2)
        go_ret
        exact ⟨by first|rfl|(simp;done)|(simp [*];done),by repeat (first|exact Drawn0.refl _|apply Drawn0.step)⟩
      ·rw [if_neg c6] at H
       exact absurd H (by simp)
     ·rw [if_neg c5] at H
      exact absurd H (by simp)
    ·rw [if_neg c4] at H
     have c4b0 : decide (x5_1 < (l0.length : Int)) = false:=decide_eq_false c4;clear c4;obtain rfl:=Option.some.inj H;go_wp2
     repeat (go_quiet (fail);try go_wp2)
     go_ret
     exact ⟨by first|rfl|(simp;done)|(simp [*];done),by repeat (first|exact Drawn0.refl _|apply Drawn0.step)⟩
 ·rw [if_neg c3] at H
  have c3b0 : ((l0.length : Int) == (l1.length : Int)) = false:=beq_eq_false_iff_ne.mpr c3;have c3b1 : ((l0.length : Int) != (l1.length : Int)) = true:=bne_iff_ne.mpr c3;have c3b2 : (l0.length == l1.length) = false:=by first|simpa using c3|(simp at c3 ⊢;omega)
  obtain rfl:=Option.some.inj H;go_enter Try.func13,Try.ntmps13
  go_wp2
  repeat (go_quiet (fail);try go_wp2)
  go_ret
  exact ⟨by first|rfl|(simp;done)|(simp [*];done),by repeat (first|exact Drawn0.refl _|apply Drawn0.step)⟩
theorem trivetlaw14_Same.loop (n : Nat) : ∀ (k i : Nat) (a : List Int),a.length = i + n→a.length≤1000000000000000→n < k→trivetlaw14_Same.l0 k a a i = some true:=by
 induction n with
 | zero=>
  intro k i a hl hm hk;obtain ⟨j,rfl⟩ : ∃ j,k = j + 1:=⟨k - 1,by omega⟩
  simp only [trivetlaw14_Same.l0]
  rw [if_neg (by omega)]
 | succ n ih=>
  intro k i a hl hm hk;obtain ⟨j,rfl⟩ : ∃ j,k = j + 1:=⟨k - 1,by omega⟩
  simp only [trivetlaw14_Same.l0]
  rw [if_pos (by omega),if_pos (by omega),if_pos (by omega),if_pos trivial,M.w64_id (n:=(i : Int) + 1) (by omega) (by omega)]
  exact ih j (i + 1) a (by omega) hm (by omega)
theorem trivetlaw14_Same.num (k : Nat) (a : List Int) (hm : a.length≤1000) (hk : 1001≤k) : trivetlaw14_Same.f k a a = some true:=by
 unfold trivetlaw14_Same.f
 rw [if_pos rfl]
 exact trivetlaw14_Same.loop a.length k 0 a (by omega) (by omega) (by omega)
theorem trivetlaw14_Same.any (k : Nat) (a : List Int) (hm : a.length≤1000000000000000) (hk : a.length < k) : trivetlaw14_Same.f k a a = some true:=by
 unfold trivetlaw14_Same.f
 rw [if_pos rfl]
 exact trivetlaw14_Same.loop a.length k 0 a (by omega) hm (by omega)
def trivetref01_norm.l0 : Nat→List Int→Bool→Option (List Int × Bool)
 | 0,_,_=>none
 | k + 1,x0,x1=>if (x0.length : Int) > 0 then (if 0≤(wrap64 ((x0.length : Int) - 1)) then (if (wrap64 ((x0.length : Int) - 1)) < (x0.length : Int) then (if (rd x0 (wrap64 ((x0.length : Int) - 1))) = 0 then (if (wrap64 ((x0.length : Int) - 1))≤(x0.length : Int) then (trivetref01_norm.l0 k (x0.take ((wrap64 ((x0.length : Int) - 1)) : Int).toNat) x1) else (none)) else (if x1 = true then (some (x0,true)) else (some (x0,false)))) else (none)) else (none)) else (if x1 = true then (some (x0,false)) else (some (x0,false)))
def trivetref01_norm.f (k : Nat) (l0 : List Int) (a1 : Bool) : Option (List Int × Bool):=trivetref01_norm.l0 k l0 a1
theorem trivetref01_norm.calls (k : Nat) (P0_ : Nat→Prop) (G : Option Addr) (c0 : Nat) (l0 : List Int) (a1 : Bool) (r1 : List Int) (r2 : Bool) (w : World) (hs0 : Kd.V (Kd.int .u64) 60 w w.heap.size (fun u=>P0_ u) (.slice G l0.length c0) l0) (h : trivetref01_norm.f k l0 a1 = some (r1,r2)) :
  Calls Try.prog 39 #[.slice G l0.length c0,.bool a1] w fun e w'=>∃ v0_ : Value,e = .returned (.agg #[v0_,.bool r2])∧Kd.V (Kd.int .u64) 60 w' w.heap.size (fun u=>(P0_ u∨w.heap.size≤u)) v0_ r1∧Below w.heap.size w w':=by
 have hu51:=Try.underlying51;have D:=ka (show Kd.V (Kd.int .u64) 60 w w.heap.size (fun u=>(P0_ u∨w.heap.size≤u)) (.slice G l0.length c0) l0 from Kd.V_mono hs0 (fun u hk=>.inl hk));have HB:=ka (Below.refl w.heap.size w);have H : (trivetref01_norm.l0 k l0 a1) = some (r1,r2):=h;clear h;have H':=ka H;clear H;go_enter Try.func39,Try.ntmps39
 go_wp2_with (first|((with_reducible refine gate_dst (N:=4) rfl ?_);(try (refine gate_guard (by rfl) ?_;dsimp only));refine kx (N:=4) (cs:=#[.slice none 0 0,.bool false]) (t:=51) ?_;intro c hg w3 hbox hb;have a5:=ka (Kd.V_below (Kd.V_elderB (kv D.out) c (Nat.le_of_eq hg.symm)) hb);have a6:=ka (below_step (kw HB.out) hb);have a7:=ka (hbox);have L:=ka ((by rw [hg];exact (below_size (kw HB.out)) : w.heap.size≤c));have a8:=L;clear D;clear HB;have D:=a5;have HB:=a6;have d:=a7;have b4:=L;have z:=a8;clear a5 a6 a7 L a8;clear hb hbox hg))
 (try simp only [Act.put,List.setIfInBounds_toArray,List.set_cons_zero,List.set_cons_succ]);go_loopg [0] k (fun kq v0 w'=>∃ (x0_1 : List Int),Aside0 (trivetref01_norm.l0 kq x0_1 a1 = some (r1,r2))∧Aside0 (kq≤k)∧Aside0 (Kd.V (Kd.int .u64) 60 w' w.heap.size (fun u=>(P0_ u∨w.heap.size≤u)∧u≠c) v0 x0_1)∧Aside0 (w'.heap[c]? = some (.cells #[(.slice none 0 0),.bool false] 51 (0,0)))∧Aside0 (Below w.heap.size w w'))
 case atStart=>exact ⟨(l0),H',⟨Nat.le_refl _⟩,⟨kv D.out⟩,⟨by (with_reducible repeat (first|apply kb1|apply kb2|apply kb3));exact d.out⟩,⟨by repeat (first|(with_reducible first|exact HB.out|apply kc1|apply kc2|apply kc3|refine kc4 ?_ z.out)|exact HB.out)⟩⟩
 case round=>
  clear H';try clear p2
  obtain ⟨x0_1,HA,HK1,g,d,HB⟩:=hrel;cases gk with
  | zero=>exact absurd HA.out (by simp [trivetref01_norm.l0])
  | succ k1=>
   have H:=HA.out;clear HA;simp only [trivetref01_norm.l0] at H
   by_cases c4 : (x0_1.length : Int) > 0
   ·rw [if_pos c4] at H
    have c4b0 : decide (0 < (x0_1.length : Int)) = true:=decide_eq_true c4;have c4b1 : decide (0 < x0_1.length) = true:=decide_eq_true (by omega);clear c4;obtain ⟨ji5,hji5⟩ : ∃ j_ : Int,(wrap64 ((x0_1.length : Int) - 1)) = j_:=⟨_,rfl⟩
    replace H : (if 0≤(ji5) then (if (ji5) < (x0_1.length : Int) then (if (rd x0_1 (ji5)) = 0 then (if (ji5)≤(x0_1.length : Int) then (trivetref01_norm.l0 k1 (x0_1.take ((ji5) : Int).toNat) a1) else (none)) else (if a1 = true then (some (x0_1,true)) else (some (x0_1,false)))) else (none)) else (none)) = some (r1,r2):=by first|(rw [hji5] at H;exact H)|(simp only [hji5] at H ⊢;exact H)
    have hji5w : (IntKind.i64.wrap ((x0_1.length : Int) - 1)) = ji5:=(i64_w _).trans hji5;by_cases c6 : 0≤(ji5)
    ·rw [if_pos c6] at H
     have c6b0 : decide (0≤(ji5)) = true:=decide_eq_true c6;clear c6;by_cases c7 : (ji5) < (x0_1.length : Int)
     ·rw [if_pos c7] at H
      have c7b0 : decide ((ji5) < (x0_1.length : Int)) = true:=decide_eq_true c7;clear c7;by_cases c8 : (rd x0_1 (ji5)) = 0
      ·rw [if_pos c8] at H
       have c8b0 : ((rd x0_1 (ji5)) == 0) = true:=beq_iff_eq.mpr c8;have c8b1 : ((rd x0_1 (ji5)) != 0) = false:=bne_eq_false_iff_eq.mpr c8;clear c8;have c9b0:=eq_true (of_decide_eq_true (by first|(with_reducible assumption)|assumption) : 0≤(ji5));by_cases c10 : (ji5)≤(x0_1.length : Int)
       ·rw [if_pos c10] at H
        have c10b0:=eq_true c10;have c10b1 : decide ((ji5)≤(x0_1.length : Int)) = true:=decide_eq_true c10;clear c10;obtain ⟨y486,hy486⟩ : ∃ y_ : List Int,y_ = (x0_1.take ((ji5) : Int).toNat):=⟨_,rfl⟩
        replace H : (trivetref01_norm.l0 k1 y486 a1) = some (r1,r2):=by first|(rw [hy486];with_reducible exact H)|(have H2_:=(af _ _).symm.trans H;rw [hy486];with_reducible exact H2_)|(have H2_:=(af _ _).symm.trans H;with_reducible exact H2_)|with_reducible exact H|(rw [hy486];exact H)|exact H
        have Ny486:=ka hy486;clear hy486;have H':=ka H;clear H;obtain ⟨d4,B,a9⟩:=Kd.V_slice g.out;subst a9;have p485 : 0≤((ji5) : Int):=of_decide_eq_true (by first|(with_reducible assumption)|assumption);have q485 : (ji5) < (x0_1.length : Int):=of_decide_eq_true (by first|(with_reducible assumption)|assumption);obtain ⟨ad485,e485,hx485_0⟩:=Kd.at_int (Kd.V_reads' g.out).2.2 (ji5) p485 q485;cases e485
        replace p485:=eq_true p485;replace q485:=eq_true q485;have q12 : ((ji5) : Int)≤((x0_1.length : Int) : Int):=of_decide_eq_true (by first|(with_reducible assumption)|assumption);obtain ⟨i012,hi012,_,hsz12,_⟩:=info_parts info60;have hroom12 : x0_1.length≤B:=(Kd.V_reads' g.out).2.1;have hC12 : Kd.F (Kd.int .u64) _ _ (some ad485) x0_1.length x0_1:=(Kd.V_at (base:=w.heap.size) g.out).2.2;have hcut12:=cut_to (P:=Try.prog) 49 60 .i64 Try.underlying49 hi012 (some ad485) x0_1.length B (ji5) (of_decide_eq_true (by first|(with_reducible assumption)|assumption)) q12 hroom12;have hr12:=Kd.F_take (m:=((ji5) : Int).toNat) hC12 (by omega);have hy12 : y486.length = ((ji5) : Int).toNat:=(by rw [Ny486.out,List.length_take];omega)
        rw [← Ny486.out] at hr12
        rw [← hy12] at hcut12
        have a2:=ka (show Kd.V (Kd.int .u64) 60 _ w.heap.size _ (.slice (some ad485) y486.length B) y486 from Kd.V_mk (by omega) hr12);have b5:=ka (show y486.length≤B from by omega);clear hr12 hC12 hroom12 hi012 hsz12;have KY12:=ka hy12;clear hy12;replace q12:=eq_true q12;go_wp2
        go_roundg k1
        case measure=>have:=HK1.out;omega
        case rel=>exact ⟨(y486),H',⟨by have:=HK1.out;omega⟩,⟨kv a2.out⟩,⟨by (with_reducible repeat (first|apply kb1|apply kb2|apply kb3));exact d.out⟩,⟨by repeat (first|(with_reducible first|exact HB.out|apply kc1|apply kc2|apply kc3|refine kc4 ?_ z.out)|exact HB.out)⟩⟩
       ·rw [if_neg c10] at H
        exact absurd H (by simp)
      ·rw [if_neg c8] at H
       have c8b0 : ((rd x0_1 (ji5)) == 0) = false:=beq_eq_false_iff_ne.mpr c8;have c8b1 : ((rd x0_1 (ji5)) != 0) = true:=bne_iff_ne.mpr c8;by_cases c13 : a1 = true
       ·subst c13;have H1 : (some (x0_1,true)) = some (r1,r2):=by rw [if_pos rfl] at H;exact H
        clear H;have H:=H1;clear H1;simp only [ae,Prod.mk.injEq] at H
        obtain ⟨rfl,rfl⟩:=H;obtain ⟨d5,O,b0⟩:=Kd.V_slice g.out;subst b0;have p485 : 0≤((ji5) : Int):=of_decide_eq_true (by first|(with_reducible assumption)|assumption);have q485 : (ji5) < (x0_1.length : Int):=of_decide_eq_true (by first|(with_reducible assumption)|assumption);obtain ⟨ad485,e485,hx485_0⟩:=Kd.at_int (Kd.V_reads' g.out).2.2 (ji5) p485 q485;cases e485
        replace p485:=eq_true p485;replace q485:=eq_true q485;have b6:=blkAll2 d.out;go_wp2
        refine bodyPost_ret (results_cell_row rfl _ _ c 51 #[.slice (some ad485) x0_1.length O,.bool true] (0,0) _ rfl (by (with_reducible repeat (first|apply kb1|apply kb2|apply kb3|apply blkPut2_1|apply blkPut2_0));exact d.out) Try.underlying51 rfl (by kernel_rfl)) rfl ?_;exact ⟨_,by first|rfl|(simp [ac,ad] <;> rfl)|(simp only [← hji5];first|rfl|(simp [ac,ad] <;> rfl))|(simp [*,ac,ad] <;> rfl),by (with_reducible repeat (first|apply Kd.V_alloc|apply Kd.V_drewN|apply Kd.V_drew));exact Kd.V_mono (Kd.V_far (p:=⟨c,1,none⟩) (Kd.V_far (p:=⟨c,0,none⟩) (Kd.V_mono g.out (fun u hk=>(⟨hk,hk.2⟩ : _∧u≠c))) (fun _ hk=>hk.2) (.slice (some ad485) x0_1.length O)) (fun _ hk=>hk.2) (.bool true)) (fun _ hk=>hk.1.1),by repeat (first|(with_reducible first|exact HB.out|apply kc1|apply kc2|apply kc3|refine kc4 ?_ z.out)|exact HB.out)⟩
       ·replace c13:=Bool.eq_false_iff.mpr c13;subst c13;have H1 : (some (x0_1,false)) = some (r1,r2):=by rw [if_neg (show ¬ (false = true) by decide)] at H;exact H
        clear H;have H:=H1;clear H1;simp only [ae,Prod.mk.injEq] at H
        obtain ⟨rfl,rfl⟩:=H;obtain ⟨d6,Q,b1⟩:=Kd.V_slice g.out;subst b1;have p485 : 0≤((ji5) : Int):=of_decide_eq_true (by first|(with_reducible assumption)|assumption);have q485 : (ji5) < (x0_1.length : Int):=of_decide_eq_true (by first|(with_reducible assumption)|assumption);obtain ⟨ad485,e485,hx485_0⟩:=Kd.at_int (Kd.V_reads' g.out).2.2 (ji5) p485 q485;cases e485
        replace p485:=eq_true p485;replace q485:=eq_true q485;have b7:=blkAll2 d.out;go_wp2
        refine bodyPost_ret (results_cell_row rfl _ _ c 51 #[.slice (some ad485) x0_1.length Q,.bool false] (0,0) _ rfl (by (with_reducible repeat (first|apply kb1|apply kb2|apply kb3|apply blkPut2_1|apply blkPut2_0));exact d.out) Try.underlying51 rfl (by kernel_rfl)) rfl ?_;exact ⟨_,by first|rfl|(simp [ac,ad] <;> rfl)|(simp only [← hji5];first|rfl|(simp [ac,ad] <;> rfl))|(simp [*,ac,ad] <;> rfl),by (with_reducible repeat (first|apply Kd.V_alloc|apply Kd.V_drewN|apply Kd.V_drew));exact Kd.V_mono (Kd.V_far (p:=⟨c,1,none⟩) (Kd.V_far (p:=⟨c,0,none⟩) (Kd.V_mono g.out (fun u hk=>(⟨hk,hk.2⟩ : _∧u≠c))) (fun _ hk=>hk.2) (.slice (some ad485) x0_1.length Q)) (fun _ hk=>hk.2) (.bool false)) (fun _ hk=>hk.1.1),by repeat (first|(with_reducible first|exact HB.out|apply kc1|apply kc2|apply kc3|refine kc4 ?_ z.out)|exact HB.out)⟩
     ·rw [if_neg c7] at H
      exact absurd H (by simp)
    ·rw [if_neg c6] at H
     exact absurd H (by simp)
   ·rw [if_neg c4] at H
    have c4b0 : decide (0 < (x0_1.length : Int)) = false:=decide_eq_false c4;have c4b1 : decide (0 < x0_1.length) = false:=decide_eq_false (by omega);clear c4;by_cases c18 : a1 = true
    ·subst c18;have H1 : (some (x0_1,false)) = some (r1,r2):=by rw [if_pos rfl] at H;exact H
     clear H;have H:=H1;clear H1;simp only [ae,Prod.mk.injEq] at H
     obtain ⟨rfl,rfl⟩:=H;obtain ⟨S,W,b2⟩:=Kd.V_slice g.out;subst b2;have b8:=blkAll2 d.out;go_wp2
     refine bodyPost_ret (results_cell_row rfl _ _ c 51 #[.slice S x0_1.length W,.bool false] (0,0) _ rfl (by (with_reducible repeat (first|apply kb1|apply kb2|apply kb3|apply blkPut2_1|apply blkPut2_0));exact d.out) Try.underlying51 rfl (by kernel_rfl)) rfl ?_;exact ⟨_,by first|rfl|(simp [ac,ad] <;> rfl)|(simp [*,ac,ad] <;> rfl),by (with_reducible repeat (first|apply Kd.V_alloc|apply Kd.V_drewN|apply Kd.V_drew));exact Kd.V_mono (Kd.V_far (p:=⟨c,1,none⟩) (Kd.V_far (p:=⟨c,0,none⟩) (Kd.V_mono g.out (fun u hk=>(⟨hk,hk.2⟩ : _∧u≠c))) (fun _ hk=>hk.2) (.slice S x0_1.length W)) (fun _ hk=>hk.2) (.bool false)) (fun _ hk=>hk.1.1),by repeat (first|(with_reducible first|exact HB.out|apply kc1|apply kc2|apply kc3|refine kc4 ?_ z.out)|exact HB.out)⟩
    ·replace c18:=Bool.eq_false_iff.mpr c18;subst c18;have H1 : (some (x0_1,false)) = some (r1,r2):=by rw [if_neg (show ¬ (false = true) by decide)] at H;exact H
     clear H;have H:=H1;clear H1;simp only [ae,Prod.mk.injEq] at H
     obtain ⟨rfl,rfl⟩:=H;obtain ⟨X,Y,b3⟩:=Kd.V_slice g.out;subst b3;have b9:=blkAll2 d.out;go_wp2
     refine bodyPost_ret (results_cell_row rfl _ _ c 51 #[.slice X x0_1.length Y,.bool false] (0,0) _ rfl (by (with_reducible repeat (first|apply kb1|apply kb2|apply kb3|apply blkPut2_1|apply blkPut2_0));exact d.out) Try.underlying51 rfl (by kernel_rfl)) rfl ?_;exact ⟨_,by first|rfl|(simp [ac,ad] <;> rfl)|(simp [*,ac,ad] <;> rfl),by (with_reducible repeat (first|apply Kd.V_alloc|apply Kd.V_drewN|apply Kd.V_drew));exact Kd.V_mono (Kd.V_far (p:=⟨c,1,none⟩) (Kd.V_far (p:=⟨c,0,none⟩) (Kd.V_mono g.out (fun u hk=>(⟨hk,hk.2⟩ : _∧u≠c))) (fun _ hk=>hk.2) (.slice X x0_1.length Y)) (fun _ hk=>hk.2) (.bool false)) (fun _ hk=>hk.1.1),by repeat (first|(with_reducible first|exact HB.out|apply kc1|apply kc2|apply kc3|refine kc4 ?_ z.out)|exact HB.out)⟩
end Go.Proofs.Ytghimjkoaldafaa.P
