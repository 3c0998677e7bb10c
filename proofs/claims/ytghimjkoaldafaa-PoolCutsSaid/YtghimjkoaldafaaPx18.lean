-- Written by a program of this session out of the translation of the seat: Lean functions and the proofs that the Go functions come to them.
import Derived.Test.YtghimjkoaldafaaPx0
import Derived.Test.YtghimjkoaldafaaPx3
import Derived.Test.YtghimjkoaldafaaPx4
import Derived.Test.YtghimjkoaldafaaPx6
import Derived.Test.YtghimjkoaldafaaPx7
import Derived.Test.YtghimjkoaldafaaPx8
import Derived.Test.YtghimjkoaldafaaPx9
import Derived.Test.YtghimjkoaldafaaPx11
import Derived.Test.YtghimjkoaldafaaPx13
import Derived.Test.YtghimjkoaldafaaPx15
import Derived.Test.YtghimjkoaldafaaPx16
import Derived.Test.YtghimjkoaldafaaPx17
namespace Go.Proofs.Ytghimjkoaldafaa.P
open Go.RowKit Go.Proofs.YtghimjkoaldafaaW.PrintWords Go.Proofs.YtghimjkoaldafaaW.PrintLast Go.Proofs.YtghimjkoaldafaaW.PrintMore
open Go.Proofs.Ytghimjkoaldafaa.P.trivetref03_Shares renaming f → aa, l1 → am, l2 → an, l3 → ao, l0 → aq
open Option renaming bind_some → ab, bind_eq_some_iff → ad
open Go.Proofs.Ytghimjkoaldafaa.P.trivetlaw14_Same renaming f → ae
open Go.Proofs.Ytghimjkoaldafaa.P renaming errW_none → af, errW_some → ag
open Go.Proofs.Ytghimjkoaldafaa.P.Qu renaming abs_pos → ah
open Bool renaming eq_false_iff → aj
open Go.Proofs.Ytghimjkoaldafaa.P.Shr renaming ord → ak, qs → ap, inc → ar, left → au, rs → av
open Nat renaming le_refl → al
set_option maxHeartbeats 8000000
set_option maxRecDepth 100000
attribute [local go_sem] max2_int min2_int max_two min_two max_three min_three max_four min_four   -- for this text's walks alone
set_option linter.unusedVariables false
set_option linter.unusedSimpArgs false
/-- a place's rest,as a long number -/
def Rsh.cut (r : Int) : S51:=⟨(U.num r).1,(U.num r).2⟩
theorem Rsh.floor {n c : Int} (hc : 0 < c) : M.quo n c 1 = n / c:=by
 rw [Qu.quo_pos hc,if_pos (.inr rfl)]
theorem Rsh.rd_mem (l : List Int) (i : Nat) (h : i < l.length) : rd l (i : Int) ∈ l:=by
 have e : rd l (i : Int) = l[i]:=by
  unfold rd
  rw [Int.toNat_natCast,List.getD_eq_getElem?_getD,List.getElem?_eq_getElem h];rfl
 rw [e]
 exact List.getElem_mem h
theorem Rsh.drop_rd (l : List Int) (i : Nat) (h : i < l.length) : l.drop i = rd l (i : Int) :: l.drop (i + 1):=by
 have e : rd l (i : Int) = l[i]:=by
  unfold rd
  rw [Int.toNat_natCast,List.getD_eq_getElem?_getD,List.getElem?_eq_getElem h];rfl
 rw [e,List.drop_eq_getElem_cons h]
/-- all weights' sum -/
theorem trivetref03_Shares.sums (n : Nat) : ∀ (k i : Nat) (a s : Int) (l : List Int),l.length = i + n→l.length≤480→(∀ w ∈ l,0≤w∧w≤10000000000000)→0≤s∧s≤10000000000000 * (i : Int)→300≤k→
  aq (k + n + 1) a l (i : Int) (U.num s).1 (U.num s).2 = am k a l [] [] a 0 (U.num (s + (l.drop i).sum)).1 (U.num (s + (l.drop i).sum)).2:=by
 induction n with
 | zero=>
  intro k i a s l hl hm hw hs hk;rw [Nat.add_zero,aq,if_neg (by omega),List.drop_eq_nil_of_le (by omega)]
  simp
 | succ n ih=>
  intro k i a s l hl hm hw hs hk;have p : (10000000000000000 : Int) < 65536 ^ 64:=by decide
  have hx:=hw _ (Rsh.rd_mem l i (by omega));have hd:=Rsh.drop_rd l i (by omega);have ih':=fun s=>ih k (i + 1) a s l (by omega) hm hw
  rw [show k + (n + 1) + 1 = (k + n + 1) + 1 by omega,aq,if_pos (by omega),if_pos (by omega),hd,List.sum_cons]
  generalize rd l (i : Int) = x at hx ⊢;rw [trivetref01_Of.num _ x (by unfold M.In;omega) (by omega),ab,trivetref01_Add.num _ s x (by rw [ah hs.1];omega) (by rw [ah hx.1];omega) (by omega),ab,M.w64_id (n:=(i : Int) + 1) (by omega) (by omega)]
  have h:=ih' (s + x) (by omega) hk;rw [Int.add_assoc] at h
  exact h
/-- the quotients and the rests -/
theorem trivetref03_Shares.parts (n : Nat) : ∀ (k i : Nat) (a all lf : Int) (l q : List Int) (c : List S51),l.length = i + n→l.length≤480→(∀ w ∈ l,0≤w∧w≤10000000000000)→0≤a∧a≤10000000000000→(∀ w ∈ l,w≤all)→0 < all∧all≤4800000000000000→q.length = i→c.length = i→-10000000000000 * (i : Int)≤lf∧lf≤10000000000000→7500≤k→
  am (k + n + 1) a l q c lf (i : Int) (U.num all).1 (U.num all).2 = an k l (q ++ ap a all (l.drop i)) (c ++ (av a all (l.drop i)).map Rsh.cut) (lf - (ap a all (l.drop i)).sum) (List.replicate l.length false):=by
 induction n with
 | zero=>
  intro k i a all lf l q c hl hm hw ha hle hall hq hc hlf hk;rw [Nat.add_zero,am,if_neg (by omega),if_pos (by omega),if_pos (by omega),List.drop_eq_nil_of_le (by omega)]
  simp [ap,av]
 | succ n ih=>
  intro k i a all lf l q c hl hm hw ha hle hall hq hc hlf hk;have p1 : (100000000000000000000000000 : Int) < 65536 ^ 15:=by decide
  have p2 : (65536 : Int) ^ 15 < 65536 ^ 32:=by decide
  have p3 : (65536 : Int) ^ 32 < 65536 ^ 64:=by decide
  have hmem:=Rsh.rd_mem l i (by omega);have hx:=hw _ hmem;have hxa:=hle _ hmem;have hd:=Rsh.drop_rd l i (by omega);have ih':=fun lf q c=>ih k (i + 1) a all lf l q c (by omega) hm hw ha hle hall
  rw [show k + (n + 1) + 1 = (k + n + 1) + 1 by omega,am,if_pos (by omega),hd]
  generalize rd l (i : Int) = x at hx hxa ⊢;have hp0 : 0≤a * x:=Int.mul_nonneg ha.1 hx.1;have hp1 : a * x≤10000000000000 * 10000000000000:=Int.mul_le_mul ha.2 hx.2 hx.1 (by decide);have hq0 : 0≤a * x / all:=Int.ediv_nonneg hp0 (by omega)
  have hq1 : a * x / all≤a:=by
   have h1 : a * x≤a * all:=Int.mul_le_mul_of_nonneg_left hxa ha.1;have h2:=Int.ediv_le_ediv (by omega : 0 < all) h1;rw [Int.mul_ediv_cancel _ (by omega : all≠0)] at h2
   exact h2
  have hr0:=Int.emod_nonneg (a * x) (show all≠0 by omega);have hr1:=Int.emod_lt_of_pos (a * x) (show 0 < all by omega);have hrest:=Qu.rest (x:=a * x) (c:=all);have hpp0 : 0≤a * x / all * all:=Int.mul_nonneg hq0 (by omega);have hpp1 : a * x / all * all≤a * x:=Int.ediv_mul_le _ (by omega);obtain ⟨v,t1,t2⟩:=trivetref01_To.num (k + n + 1) (a * x / all) (by omega) (by rw [ah hq0];omega);have hin : M.In (a * x / all):=by unfold M.In;omega
  rw [t2 hin] at t1
  have ea:=ah ha.1;have ex:=ah hx.1;have eall:=ah (show 0≤all by omega);rw [trivetref01_Of.num _ a (by unfold M.In;omega) (by omega),ab,if_pos (by omega),trivetref01_Of.num _ x (by unfold M.In;omega) (by omega),ab,trivetref01_Mul.num _ a x (by omega) (by omega) (by omega),ab,trivetref01_Quotient.num _ (a * x) all 1 (by rw [ah hp0];omega) (by omega) (by omega) (by omega),ab,Rsh.floor (by omega),t1,ab,if_pos (by omega),trivetref01_Mul.num _ (a * x / all) all (by rw [ah hq0];omega) (by omega) (by omega),ab,trivetref01_Neg.num _ (a * x / all * all) (by rw [ah hpp0];omega) (by omega),ab,trivetref01_Add.num _ (a * x) (-(a * x / all * all)) (by rw [ah hp0];omega) (by rw [Qu.abs_neg hpp0];omega) (by omega),ab,hrest,if_pos (by omega),M.w64_id (n:=(i : Int) + 1) (by omega) (by omega),M.w64_id (n:=lf - a * x / all) (by omega) (by omega)]
  have h:=ih' (lf - a * x / all) (q ++ [a * x / all]) (c ++ [Rsh.cut (a * x % all)]) (by simp [hq]) (by simp [hc]) (by omega) hk;refine h.trans ?_;simp only [ap,av,List.map_cons,List.append_assoc,List.sum_cons,List.cons_append,List.nil_append]
  rw [show lf - (a * x / all + (List.map (fun w=>a * w / all) (l.drop (i + 1))).sum) = lf - a * x / all - (List.map (fun w=>a * w / all) (l.drop (i + 1))).sum by omega]
/-- the best of the first i places: none that isn't given,or one that stands ahead of all others that aren't -/
def Rsh.Best (R : List Int) (given : List Bool) (b : Int) (i : Nat) : Prop:=
 (b = -1∧∀ j : Nat,j < i→given.getD j false = true)∨∃ c : Nat,b = (c : Int)∧c < i∧given.getD c false = false∧∀ j : Nat,j < i→given.getD j false = false→j≠c→Srt.T R (c : Int) (j : Int)
theorem Rsh.cut_at (R : List Int) (j : Nat) (h : j < R.length) : rd_T51 (R.map Rsh.cut) (j : Int) = Rsh.cut (rd R (j : Int)):=by
 unfold rd_T51 rd
 rw [Int.toNat_natCast,List.getD_eq_getElem?_getD,List.getD_eq_getElem?_getD,List.getElem?_map,List.getElem?_eq_getElem h];rfl
theorem trivetref03_Shares.scan (n : Nat) : ∀ (k i : Nat) (b lf : Int) (l q R : List Int) (given : List Bool),l.length = i + n→l.length≤480→R.length = l.length→given.length = l.length→(∀ r ∈ R,0≤r∧r < 100000000000000000)→Rsh.Best R given b i→300≤k→
  ∃ b',ao (k + n + 1) l q (R.map Rsh.cut) lf given b (i : Int) = ao (k + 1) l q (R.map Rsh.cut) lf given b' (l.length : Int)∧Rsh.Best R given b' l.length:=by
 induction n with
 | zero=>
  intro k i b lf l q R given hl hm hR hg hr hb hk;obtain rfl : i = l.length:=by omega
  exact ⟨b,rfl,hb⟩
 | succ n ih=>
  intro k i b lf l q R given hl hm hR hg hr hb hk;have p : (100000000000000000 : Int) < 65536 ^ 32:=by decide
  have ih':=fun b=>ih k (i + 1) b lf l q R given (by omega) hm hR hg hr
  have hgi : rdOf false given (i : Int) = given.getD i false:=rfl;rw [show k + (n + 1) + 1 = (k + n + 1) + 1 by omega,ao,if_pos (by omega),if_pos (by omega),if_pos (by omega),hgi,M.w64_id (n:=(i : Int) + 1) (by omega) (by omega),show (i : Int) + 1 = ((i + 1 : Nat) : Int) by omega]
  cases hgv : given.getD i false with
  | true=>
   rw [if_pos rfl]
   refine ih' b ?_ hk;rcases hb with ⟨h1,h2⟩|⟨c,h1,h2,h3,h4⟩
   ·exact .inl ⟨h1,fun j hj=>by
     by_cases e : j = i
     ·rw [e];exact hgv
     ·exact h2 j (by omega)⟩
   ·exact .inr ⟨c,h1,by omega,h3,fun j hj hj2 hj3=>by
     by_cases e : j = i
     ·rw [e,hgv] at hj2;cases hj2
     ·exact h4 j (by omega) hj2 hj3⟩
  | false=>
   rw [if_neg (by decide)]
   rcases hb with ⟨h1,h2⟩|⟨c,h1,h2,h3,h4⟩
   ·rw [h1,if_pos (by decide)]
    refine ih' (i : Int) (.inr ⟨i,rfl,by omega,hgv,fun j hj hj2 hj3=>?_⟩) hk;have:=h2 j (by omega);rw [hj2] at this
    cases this
   ·have ri:=hr _ (Rsh.rd_mem R i (by omega));have rc:=hr _ (Rsh.rd_mem R c (by omega));have ai:=ah ri.1;have ac:=ah rc.1;have e1 : (Rsh.cut (rd R (i : Int))).f0 = (U.num (rd R (i : Int))).1:=rfl;have e2 : (Rsh.cut (rd R (i : Int))).f1 = (U.num (rd R (i : Int))).2:=rfl;have e3 : (Rsh.cut (rd R (c : Int))).f0 = (U.num (rd R (c : Int))).1:=rfl;have e4 : (Rsh.cut (rd R (c : Int))).f1 = (U.num (rd R (c : Int))).2:=rfl;have hlen : (R.map Rsh.cut).length = l.length:=by simp [hR]
    rw [h1,if_neg (by omega),if_pos (by omega),if_pos (by omega),if_pos (by omega),Rsh.cut_at R i (by omega),Rsh.cut_at R c (by omega),e1,e2,e3,e4,trivetref01_Cmp.num _ (rd R (i : Int)) (rd R (c : Int)) (by omega) (by omega) (by omega),ab]
    by_cases g : rd R (i : Int) > rd R (c : Int)
    ·rw [if_neg (show ¬ rd R (i : Int) = rd R (c : Int) by omega),if_neg (show ¬ rd R (i : Int) < rd R (c : Int) by omega),if_pos (by decide)]
     refine ih' (i : Int) (.inr ⟨i,rfl,by omega,hgv,fun j hj hj2 hj3=>?_⟩) hk;left
     by_cases e : j = c
     ·rw [e];exact g
     ·have:=h4 j (by omega) hj2 e;unfold Srt.T at this
      omega
    ·have e : ¬ (if rd R (i : Int) = rd R (c : Int) then (0 : Int) else if rd R (i : Int) < rd R (c : Int) then -1 else 1) > 0:=by
      by_cases g2 : rd R (i : Int) = rd R (c : Int)
      ·rw [if_pos g2];decide
      ·rw [if_neg g2,if_pos (by omega)];decide
     rw [if_neg e]
     refine ih' (c : Int) (.inr ⟨c,rfl,by omega,h3,fun j hj hj2 hj3=>?_⟩) hk;by_cases ej : j = i
     ·subst ej;unfold Srt.T
      omega
     ·exact h4 j (by omega) hj2 hj3
theorem Rsh.inc_snoc (q o : List Int) (x : Int) : ar q (o ++ [x]) = (ar q o).set x.toNat (rd (ar q o) x + 1):=by
 unfold ar
 rw [List.foldl_append];rfl
/-- pick by pick: the places in Shr's order -/
theorem trivetref03_Shares.picks {a : Int} {l : List Int} (h : Shr.may a l) (n : Nat) : ∀ (k t : Nat) (given : List Bool),t + n≤l.length→given.length = l.length→(∀ j : Nat,j < l.length→(given.getD j false = true ↔ (j : Int) ∈ (ak a l).take t))→n * (l.length + 3) + 400≤k→
  an k l (ar (ap a l.sum l) ((ak a l).take t)) ((av a l.sum l).map Rsh.cut) (n : Int) given = some (ar (ap a l.sum l) ((ak a l).take (t + n))):=by
 obtain ⟨o1,o2,o3,o4⟩:=Shr.order h;have hRl : (av a l.sum l).length = l.length:=by simp [av]
 have hall:=Shr.sum_nn h.2.2.2.1;have hm:=h.2.2.1
 have hr : ∀ r ∈ av a l.sum l,0≤r∧r < 100000000000000000:=by
  intro r hr;obtain ⟨w,hw,rfl⟩:=List.mem_map.mp hr;have h5:=h.2.2.2.2;have:=Int.emod_nonneg (a * w) (show l.sum≠0 by omega);have:=Int.emod_lt_of_pos (a * w) h5;omega
 induction n with
 | zero=>
  intro k t given ht hg hgi hk;obtain ⟨j,rfl⟩ : ∃ j,k = j + 1:=⟨k - 1,by omega⟩
  rw [an,if_neg (by omega),Nat.add_zero]
 | succ n ih=>
  intro k t given ht hg hgi hk;have hk2 : n * (l.length + 3) + (l.length + 3) + 400≤k:=by rw [Nat.succ_mul] at hk;exact hk
  obtain ⟨j,rfl⟩ : ∃ j,k = (j + l.length + 1) + 1:=⟨k - l.length - 2,by omega⟩
  obtain ⟨b,s1,s2⟩:=trivetref03_Shares.scan l.length j 0 (-1) ((n + 1 : Nat) : Int) l (ar (ap a l.sum l) ((ak a l).take t)) (av a l.sum l) given (by omega) hm hRl hg hr (.inl ⟨rfl,fun j hj=>by omega⟩) (by omega);have hto : t < (ak a l).length:=by omega
  obtain ⟨c,hc⟩ : ∃ c,c = (ak a l)[t]:=⟨_,rfl⟩
  have hcin : 0≤c∧c < (l.length : Int):=Srt.mem_upto.mp (o1.mem_iff.mp (hc ▸ List.getElem_mem hto))
  have hnot : c ∉ (ak a l).take t:=by
   intro hmem;obtain ⟨i,hi,e⟩:=List.getElem_of_mem hmem;rw [List.getElem_take] at e
   have hi2 : i < t:=by simp at hi;omega
   have:=(List.pairwise_iff_getElem.mp o3) i t (by omega) hto hi2;exact this (e.trans hc)
  have hbc : b = c:=by
   rcases s2 with ⟨_,g2⟩|⟨bn,g1,g2,g3,g4⟩
   ·have:=(hgi c.toNat (by omega)).mp (g2 c.toNat (by omega));rw [show ((c.toNat : Nat) : Int) = c by omega] at this
    exact absurd this hnot
   ·rcases Decidable.em (bn = c.toNat) with e|e
    ·omega
    ·exfalso
     have hcf : given.getD c.toNat false = false:=by
      cases hv : given.getD c.toNat false with
      | false=>rfl
      | true=>
       have:=(hgi c.toNat (by omega)).mp hv;rw [show ((c.toNat : Nat) : Int) = c by omega] at this
       exact absurd this hnot
     have t1:=g4 c.toNat (by omega) hcf (fun h=>e h.symm);rw [show ((c.toNat : Nat) : Int) = c by omega] at t1
     have hbm : (bn : Int) ∈ ak a l:=o1.mem_iff.mpr (Srt.mem_upto.mpr ⟨by omega,by omega⟩);obtain ⟨i,hi,ei⟩:=List.getElem_of_mem hbm
     have hbt : ¬ i < t:=by
      intro hit
      have : (bn : Int) ∈ (ak a l).take t:=by
       rw [← ei]
       exact List.mem_take_iff_getElem.mpr ⟨i,by omega,rfl⟩
      have:=(hgi bn g2).mpr this;rw [g3] at this
      cases this
     have hne : i≠t:=by
      rintro rfl;rw [ei] at hc
      omega
     have t2:=(List.pairwise_iff_getElem.mp o2) t i hto hi (by omega);rw [ei,← hc] at t2
     unfold Srt.T at t1 t2
     omega
  subst hbc;have e0 : ((0 : Nat) : Int) = 0:=rfl;rw [e0] at s1
  have hql : (ar (ap a l.sum l) ((ak a l).take t)).length = l.length:=by rw [Shr.inc_len];simp [ap]
  have htake : (ak a l).take (t + 1) = (ak a l).take t ++ [b]:=by
   rw [List.take_add_one,List.getElem?_eq_getElem hto,← hc];rfl
  have hq0 : 0≤rd (ar (ap a l.sum l) ((ak a l).take t)) b∧rd (ar (ap a l.sum l) ((ak a l).take t)) b≤1000000000000000:=by
   have hnd : ((ak a l).take t).Nodup:=List.Pairwise.sublist (List.take_sublist _ _) o3;have hqq : (ap a l.sum l).length = l.length:=by simp [ap]
   have hin : ∀ x ∈ (ak a l).take t,0≤x∧x < ((ap a l.sum l).length : Int):=fun x hx=>by
    rw [hqq]
    exact Srt.mem_upto.mp (o1.mem_iff.mp (List.mem_of_mem_take hx))
   have g:=Shr.inc_get _ _ hnd hin b.toNat;rw [show ((b.toNat : Nat) : Int) = b by omega] at g
   obtain ⟨w,hw,e⟩:=List.mem_map.mp (Rsh.rd_mem (ap a l.sum l) b.toNat (by omega));rw [show ((b.toNat : Nat) : Int) = b by omega] at e
   have hw1:=h.2.2.2.1 w hw;have hw2:=Shr.le_sum (fun z hz=>(h.2.2.2.1 z hz).1) w hw;have h0:=h.1;have h1:=h.2.1;have h5:=h.2.2.2.2;have q0 : 0≤a * w / l.sum:=Int.ediv_nonneg (Int.mul_nonneg h0 hw1.1) (by omega)
   have q1 : a * w / l.sum≤a:=by
    have z1 : a * w≤a * l.sum:=Int.mul_le_mul_of_nonneg_left hw2 h0;have z2:=Int.ediv_le_ediv h5 z1;rw [Int.mul_ediv_cancel _ (by omega : l.sum≠0)] at z2
    exact z2
   rw [g,← e]
   split <;> omega
  rw [an,if_pos (by omega),s1,ao,if_neg (by omega),if_neg (by omega),if_pos (by omega),if_pos (by omega),if_pos (by omega),M.w64_id (n:=rd (ar (ap a l.sum l) ((ak a l).take t)) b + 1) (by omega) (by omega),M.w64_id (n:=((n + 1 : Nat) : Int) - 1) (by omega) (by omega),← Rsh.inc_snoc,← htake,show ((n + 1 : Nat) : Int) - 1 = (n : Int) by omega,show t + (n + 1) = (t + 1) + n by omega]
  refine ih j (t + 1) (given.set b.toNat true) (by omega) (by simp [hg]) (fun x hx=>?_) (by omega);rw [htake,List.mem_append,List.mem_singleton,← hgi x hx]
  by_cases e : x = b.toNat
  ·subst e;rw [List.getD_eq_getElem?_getD,List.getElem?_set_self (by omega)]
   simp;omega
  ·rw [List.getD_eq_getElem?_getD,List.getElem?_set_ne (fun h=>e h.symm),← List.getD_eq_getElem?_getD]
   constructor
   ·intro g;exact .inl g
   ·rintro (g|g)
    ·exact g
    ·omega
theorem trivetref03_Shares.num (k : Nat) {a : Int} {l : List Int} (h : Shr.may a l) (hk : 300000≤k) : aa k a l = some (Shr.sh a l):=by
 have hm:=h.2.2.1;have hs:=Shr.sum_nn h.2.2.2.1;have hle:=Shr.le_sum (fun z hz=>(h.2.2.2.1 z hz).1);have hlf:=Shr.left_in h;obtain ⟨J,rfl⟩ : ∃ J,k = (J + l.length + 1) + l.length + 1:=⟨k - l.length - l.length - 2,by omega⟩
 have e0 : ((0 : Nat) : Int) = 0:=rfl;have n0 : U.num 0 = ([],false):=by simp [U.num,M.abs,U.dig_zero]
 have s:=trivetref03_Shares.sums l.length (J + l.length + 1) 0 a 0 l (by omega) hm h.2.2.2.1 (by simp) (by omega);rw [e0,n0,List.drop_zero,Int.zero_add] at s
 have p:=trivetref03_Shares.parts l.length J 0 a l.sum a l [] [] (by omega) hm h.2.2.2.1 ⟨h.1,h.2.1⟩ hle ⟨h.2.2.2.2,by omega⟩ rfl rfl (by have:=h.1;have:=h.2.1;omega) (by omega);rw [e0,List.drop_zero,List.nil_append,List.nil_append] at p
 have hb : (au a l).toNat * (l.length + 3)≤480 * 483:=Nat.mul_le_mul (by unfold au;omega) (by omega)
 have q:=trivetref03_Shares.picks h (au a l).toNat J 0 (List.replicate l.length false) (by unfold au;omega) (by simp) (fun j hj=>by
  rw [List.getD_eq_getElem?_getD,List.getElem?_replicate,if_pos hj]
  simp) (by omega)
 rw [List.take_zero,Nat.zero_add,show (((au a l).toNat : Nat) : Int) = a - (ap a l.sum l).sum by unfold au;omega] at q
 unfold aa
 exact s.trans (p.trans q)
def trivetlaw18_PoolCuts.j0 : Nat→Int→List Int→Bool→Bool→Option (Bool)
 | 0,_,_,_,_=>none
 | k + 1,x3,x4,x11,x75=>if x75 = true then (none) else ((pool_Part.f k x3 x4).bind fun I=>((trivetref03_May.f k x3 x4).bind fun S=>(if S = true then (if x11 = true then (if I.2.isNone = true then ((aa k x3 x4).bind fun E=>((ae k I.1 E).bind fun D=>(some D))) else (none)) else (none)) else (if x11 = true then (if I.2.isNone = true then (none) else (if (I.2.getD 0) = 1 then (some ((I.1.length : Int) == 0)) else (none))) else (none)))))
def trivetlaw18_PoolCuts.f (k : Nat) (a0 : Int) (a1 : Int) (a2 : Int) (a3 : Int) (l4 : List Int) : Option (Bool):=(trivetlaw18_up_s.f).bind fun m=>(if (l4.length : Int) > 500 then (some m) else ((pool_Cut_s.f a0 a1 a2 a3).bind fun y=>((trivetref18_Cut.f k a0 a1 a2 a3).bind fun u=>(if y.2.2.2.isNone = true then (if u.2.2.2 = true then (if y.1 = u.1 then (if y.2.1 = u.2.1 then (trivetlaw18_PoolCuts.j0 k a3 l4 m (y.2.2.1 != u.2.2.1)) else (trivetlaw18_PoolCuts.j0 k a3 l4 m true)) else (trivetlaw18_PoolCuts.j0 k a3 l4 m true)) else (trivetlaw18_PoolCuts.j0 k a3 l4 m true)) else (if u.2.2.2 = true then (trivetlaw18_PoolCuts.j0 k a3 l4 m true) else (if 1 = (y.2.2.2.getD 0) then (if y.1 = u.1 then (if y.2.1 = u.2.1 then (trivetlaw18_PoolCuts.j0 k a3 l4 m (y.2.2.1 != u.2.2.1)) else (trivetlaw18_PoolCuts.j0 k a3 l4 m true)) else (trivetlaw18_PoolCuts.j0 k a3 l4 m true)) else (trivetlaw18_PoolCuts.j0 k a3 l4 m true)))))))
theorem trivetlaw18_PoolCuts.calls (k : Nat) (a0 : Int) (a1 : Int) (a2 : Int) (a3 : Int) (A4 : Option Addr) (c4 : Nat) (l4 : List Int) (r : Bool) (w : World) (hr4 : Kd.C (Kd.int .i64) w A4 l4.length l4) (hc4 : l4.length≤c4) (h : trivetlaw18_PoolCuts.f k a0 a1 a2 a3 l4 = some r) :
  Calls Try.prog 7 #[.int .i64 a0,.int .i64 a1,.int .i64 a2,.int .i64 a3,.slice A4 l4.length c4] w fun e w'=>e = .returned (.bool r)∧Below w.heap.size w w':=by
 have hu24:=Try.underlying24;have hu29:=Try.underlying29;have HR4:=ka hr4;have Y:=ka hc4;clear hr4 hc4;have HB:=ka (Below.refl w.heap.size w);have H : ((trivetlaw18_up_s.f).bind fun m=>(if (l4.length : Int) > 500 then (some m) else ((pool_Cut_s.f a0 a1 a2 a3).bind fun y=>((trivetref18_Cut.f k a0 a1 a2 a3).bind fun u=>(if y.2.2.2.isNone = true then (if u.2.2.2 = true then (if y.1 = u.1 then (if y.2.1 = u.2.1 then (trivetlaw18_PoolCuts.j0 k a3 l4 m (y.2.2.1 != u.2.2.1)) else (trivetlaw18_PoolCuts.j0 k a3 l4 m true)) else (trivetlaw18_PoolCuts.j0 k a3 l4 m true)) else (trivetlaw18_PoolCuts.j0 k a3 l4 m true)) else (if u.2.2.2 = true then (trivetlaw18_PoolCuts.j0 k a3 l4 m true) else (if 1 = (y.2.2.2.getD 0) then (if y.1 = u.1 then (if y.2.1 = u.2.1 then (trivetlaw18_PoolCuts.j0 k a3 l4 m (y.2.2.1 != u.2.2.1)) else (trivetlaw18_PoolCuts.j0 k a3 l4 m true)) else (trivetlaw18_PoolCuts.j0 k a3 l4 m true)) else (trivetlaw18_PoolCuts.j0 k a3 l4 m true)))))))) = some r:=h;clear h;replace H:=ad.mp H;obtain ⟨m,b1,H⟩:=H;replace H : (if (l4.length : Int) > 500 then (some m) else ((pool_Cut_s.f a0 a1 a2 a3).bind fun y=>((trivetref18_Cut.f k a0 a1 a2 a3).bind fun u=>(if y.2.2.2.isNone = true then (if u.2.2.2 = true then (if y.1 = u.1 then (if y.2.1 = u.2.1 then (trivetlaw18_PoolCuts.j0 k a3 l4 m (y.2.2.1 != u.2.2.1)) else (trivetlaw18_PoolCuts.j0 k a3 l4 m true)) else (trivetlaw18_PoolCuts.j0 k a3 l4 m true)) else (trivetlaw18_PoolCuts.j0 k a3 l4 m true)) else (if u.2.2.2 = true then (trivetlaw18_PoolCuts.j0 k a3 l4 m true) else (if 1 = (y.2.2.2.getD 0) then (if y.1 = u.1 then (if y.2.1 = u.2.1 then (trivetlaw18_PoolCuts.j0 k a3 l4 m (y.2.2.1 != u.2.2.1)) else (trivetlaw18_PoolCuts.j0 k a3 l4 m true)) else (trivetlaw18_PoolCuts.j0 k a3 l4 m true)) else (trivetlaw18_PoolCuts.j0 k a3 l4 m true))))))) = some r:=H;have A6:=ka b1;clear b1;by_cases c7 : (l4.length : Int) > 500
 ·rw [if_pos c7] at H
  have c7b0 : decide (500 < (l4.length : Int)) = true:=decide_eq_true c7;have c7b1 : decide (500 < l4.length) = true:=decide_eq_true (by omega);clear c7;obtain rfl:=Option.some.inj H;go_enter Try.func7,Try.ntmps7
  go_wp2_with (first|((with_reducible refine gate_callee (f:=8) rfl ?_);refine kg (some 23) rfl rfl Try.func8 (by kernel_rfl) rfl #[] rfl ?_;(with_reducible refine (trivetlaw18_up_s.calls  m _ A6.out).mono ?_);rintro e w8 ⟨rfl,hb⟩;refine ⟨_,rfl,?_⟩;replace HB:=ka (below_step (kw HB.out) hb);(try clear hb)))
  go_ret
  exact ⟨by first|rfl|(simp [af,ag] <;> rfl)|(simp [*,af,ag] <;> rfl),by repeat (first|(with_reducible first|exact HB.out|apply kc1|apply kc2|apply kc3)|exact HB.out)⟩
 ·rw [if_neg c7] at H
  have c7b0 : decide (500 < (l4.length : Int)) = false:=decide_eq_false c7;have c7b1 : decide (500 < l4.length) = false:=decide_eq_false (by omega);clear c7;replace H:=ad.mp H;obtain ⟨⟨A,B,N,W⟩,b2,H⟩:=H;replace H : ((trivetref18_Cut.f k a0 a1 a2 a3).bind fun u=>(if W.isNone = true then (if u.2.2.2 = true then (if A = u.1 then (if B = u.2.1 then (trivetlaw18_PoolCuts.j0 k a3 l4 m (N != u.2.2.1)) else (trivetlaw18_PoolCuts.j0 k a3 l4 m true)) else (trivetlaw18_PoolCuts.j0 k a3 l4 m true)) else (trivetlaw18_PoolCuts.j0 k a3 l4 m true)) else (if u.2.2.2 = true then (trivetlaw18_PoolCuts.j0 k a3 l4 m true) else (if 1 = (W.getD 0) then (if A = u.1 then (if B = u.2.1 then (trivetlaw18_PoolCuts.j0 k a3 l4 m (N != u.2.2.1)) else (trivetlaw18_PoolCuts.j0 k a3 l4 m true)) else (trivetlaw18_PoolCuts.j0 k a3 l4 m true)) else (trivetlaw18_PoolCuts.j0 k a3 l4 m true))))) = some r:=H;have A9:=ka b2;clear b2;replace H:=ad.mp H;obtain ⟨⟨F,G,Q,V⟩,a6,H⟩:=H;replace H : (if W.isNone = true then (if V = true then (if A = F then (if B = G then (trivetlaw18_PoolCuts.j0 k a3 l4 m (N != Q)) else (trivetlaw18_PoolCuts.j0 k a3 l4 m true)) else (trivetlaw18_PoolCuts.j0 k a3 l4 m true)) else (trivetlaw18_PoolCuts.j0 k a3 l4 m true)) else (if V = true then (trivetlaw18_PoolCuts.j0 k a3 l4 m true) else (if 1 = (W.getD 0) then (if A = F then (if B = G then (trivetlaw18_PoolCuts.j0 k a3 l4 m (N != Q)) else (trivetlaw18_PoolCuts.j0 k a3 l4 m true)) else (trivetlaw18_PoolCuts.j0 k a3 l4 m true)) else (trivetlaw18_PoolCuts.j0 k a3 l4 m true)))) = some r:=H;have c0:=ka a6;clear a6;have Z:=ka H;clear H;go_enter Try.func7,Try.ntmps7
  go_upto_region 6 with (first|((with_reducible refine gate_callee (f:=8) rfl ?_);refine kg (some 23) rfl rfl Try.func8 (by kernel_rfl) rfl #[] rfl ?_;(with_reducible refine (trivetlaw18_up_s.calls  m _ A6.out).mono ?_);rintro e e8 ⟨rfl,hb⟩;refine ⟨_,rfl,?_⟩;replace HB:=ka (below_step (kw HB.out) hb);(try clear hb))|((with_reducible refine gate_callee (f:=11) rfl ?_);refine kg (some 33) rfl rfl Try.func11 (by kernel_rfl) rfl #[.int .i64 a0,.int .i64 a1,.int .i64 a2,.int .i64 a3] rfl ?_;(with_reducible refine (pool_Cut_s.calls a0 a1 a2 a3 A B N W _ A9.out).mono ?_);rintro e e9 ⟨rfl,hb⟩;refine ⟨_,rfl,?_⟩;replace HB:=ka (below_step (kw HB.out) hb);(try clear hb);(try simp only [af,ag]))|((with_reducible refine gate_callee (f:=14) rfl ?_);refine kg (some 43) rfl rfl Try.func14 (by kernel_rfl) rfl #[.int .i64 a0,.int .i64 a1,.int .i64 a2,.int .i64 a3] rfl ?_;(with_reducible refine (trivetref18_Cut.calls k a0 a1 a2 a3 F G Q V _ c0.out).mono ?_);rintro e f2 ⟨rfl,hb⟩;refine ⟨_,rfl,?_⟩;replace HB:=ka (below_step (kw HB.out) hb);(try clear hb)))
  (try simp only [Act.put,List.setIfInBounds_toArray,List.set_cons_zero,List.set_cons_succ]);go_cut [75] (fun c3 wc=>∃ (kq : Nat) (x75_10 : Bool),c3 = .bool x75_10∧Aside0 (trivetlaw18_PoolCuts.j0 kq a3 l4 m x75_10 = some r)∧Aside0 (kq≤k)∧Aside0 (Below w.heap.size w wc))
  case first=>
   have H:=Z.out;clear Z;rcases W with _|q786
   ·have H1 : (if V = true then (if A = F then (if B = G then (trivetlaw18_PoolCuts.j0 k a3 l4 m (N != Q)) else (trivetlaw18_PoolCuts.j0 k a3 l4 m true)) else (trivetlaw18_PoolCuts.j0 k a3 l4 m true)) else (trivetlaw18_PoolCuts.j0 k a3 l4 m true)) = some r:=by rw [if_pos (show (none : Option Int).isNone = true by rfl)] at H;exact H
    clear H;have H:=H1;clear H1;try simp only [af,ag]
    by_cases c15 : V = true
    ·subst c15;have H1 : (if A = F then (if B = G then (trivetlaw18_PoolCuts.j0 k a3 l4 m (N != Q)) else (trivetlaw18_PoolCuts.j0 k a3 l4 m true)) else (trivetlaw18_PoolCuts.j0 k a3 l4 m true)) = some r:=by rw [if_pos rfl] at H;exact H
     clear H;have H:=H1;clear H1;by_cases c16 : A = F
     ·rw [if_pos c16] at H
      have c16b0 : (A == F) = true:=beq_iff_eq.mpr c16;have c16b1 : (A != F) = false:=bne_eq_false_iff_eq.mpr c16;clear c16;(first|rw [c16b0]|(simp only [i64_w,i32_w];rw [c16b0])|skip);by_cases c17 : B = G
      ·rw [if_pos c17] at H
       have c17b0 : (B == G) = true:=beq_iff_eq.mpr c17;have c17b1 : (B != G) = false:=bne_eq_false_iff_eq.mpr c17;clear c17;have H':=ka H;clear H;go_wp2
       go_meet
       case rel=>exact ⟨_,((N != Q)),(by first|rfl|(simp;done)|(simp [*];done)),H',⟨by first|omega|exact al _⟩,⟨by repeat (first|(with_reducible first|exact HB.out|apply kc1|apply kc2|apply kc3)|exact HB.out)⟩⟩
      ·rw [if_neg c17] at H
       have c17b0 : (B == G) = false:=beq_eq_false_iff_ne.mpr c17;have c17b1 : (B != G) = true:=bne_iff_ne.mpr c17;have H':=ka H;clear H;go_wp2
       go_meet
       case rel=>exact ⟨_,(true),(by first|rfl|(simp;done)|(simp [*];done)),H',⟨by first|omega|exact al _⟩,⟨by repeat (first|(with_reducible first|exact HB.out|apply kc1|apply kc2|apply kc3)|exact HB.out)⟩⟩
     ·rw [if_neg c16] at H
      have c16b0 : (A == F) = false:=beq_eq_false_iff_ne.mpr c16;have c16b1 : (A != F) = true:=bne_iff_ne.mpr c16;(first|rw [c16b0]|(simp only [i64_w,i32_w];rw [c16b0])|skip);have H':=ka H;clear H;go_wp2
      go_meet
      case rel=>exact ⟨_,(true),(by first|rfl|(simp;done)|(simp [*];done)),H',⟨by first|omega|exact al _⟩,⟨by repeat (first|(with_reducible first|exact HB.out|apply kc1|apply kc2|apply kc3)|exact HB.out)⟩⟩
    ·replace c15:=aj.mpr c15;subst c15;have H1 : (trivetlaw18_PoolCuts.j0 k a3 l4 m true) = some r:=by rw [if_neg (show ¬ (false = true) by decide)] at H;exact H
     clear H;have H:=H1;clear H1;have H':=ka H;clear H;go_wp2
     go_meet
     case rel=>exact ⟨_,(true),(by first|rfl|(simp;done)|(simp [*];done)),H',⟨by first|omega|exact al _⟩,⟨by repeat (first|(with_reducible first|exact HB.out|apply kc1|apply kc2|apply kc3)|exact HB.out)⟩⟩
   ·have H1 : (if V = true then (trivetlaw18_PoolCuts.j0 k a3 l4 m true) else (if 1 = q786 then (if A = F then (if B = G then (trivetlaw18_PoolCuts.j0 k a3 l4 m (N != Q)) else (trivetlaw18_PoolCuts.j0 k a3 l4 m true)) else (trivetlaw18_PoolCuts.j0 k a3 l4 m true)) else (trivetlaw18_PoolCuts.j0 k a3 l4 m true))) = some r:=by rw [if_neg (show ¬ (some q786).isNone = true by simp)] at H;exact H
    clear H;have H:=H1;clear H1;try simp only [af,ag]
    by_cases c18 : V = true
    ·subst c18;have H1 : (trivetlaw18_PoolCuts.j0 k a3 l4 m true) = some r:=by rw [if_pos rfl] at H;exact H
     clear H;have H:=H1;clear H1;have H':=ka H;clear H;go_wp2
     go_meet
     case rel=>exact ⟨_,(true),(by first|rfl|(simp;done)|(simp [*];done)),H',⟨by first|omega|exact al _⟩,⟨by repeat (first|(with_reducible first|exact HB.out|apply kc1|apply kc2|apply kc3)|exact HB.out)⟩⟩
    ·replace c18:=aj.mpr c18;subst c18;have H1 : (if 1 = q786 then (if A = F then (if B = G then (trivetlaw18_PoolCuts.j0 k a3 l4 m (N != Q)) else (trivetlaw18_PoolCuts.j0 k a3 l4 m true)) else (trivetlaw18_PoolCuts.j0 k a3 l4 m true)) else (trivetlaw18_PoolCuts.j0 k a3 l4 m true)) = some r:=by rw [if_neg (show ¬ (false = true) by decide)] at H;exact H
     clear H;have H:=H1;clear H1;by_cases c19 : 1 = q786
     ·rw [if_pos c19] at H
      have c19b0 : (1 == q786) = true:=beq_iff_eq.mpr c19;have c19b1 : (1 != q786) = false:=bne_eq_false_iff_eq.mpr c19;subst c19;by_cases c20 : A = F
      ·rw [if_pos c20] at H
       have c20b0 : (A == F) = true:=beq_iff_eq.mpr c20;have c20b1 : (A != F) = false:=bne_eq_false_iff_eq.mpr c20;clear c20;by_cases c21 : B = G
       ·rw [if_pos c21] at H
        have c21b0 : (B == G) = true:=beq_iff_eq.mpr c21;have c21b1 : (B != G) = false:=bne_eq_false_iff_eq.mpr c21;clear c21;have H':=ka H;clear H;go_wp2
        go_meet
        case rel=>exact ⟨_,((N != Q)),(by first|rfl|(simp;done)|(simp [*];done)),H',⟨by first|omega|exact al _⟩,⟨by repeat (first|(with_reducible first|exact HB.out|apply kc1|apply kc2|apply kc3)|exact HB.out)⟩⟩
       ·rw [if_neg c21] at H
        have c21b0 : (B == G) = false:=beq_eq_false_iff_ne.mpr c21;have c21b1 : (B != G) = true:=bne_iff_ne.mpr c21;have H':=ka H;clear H;go_wp2
        go_meet
        case rel=>exact ⟨_,(true),(by first|rfl|(simp;done)|(simp [*];done)),H',⟨by first|omega|exact al _⟩,⟨by repeat (first|(with_reducible first|exact HB.out|apply kc1|apply kc2|apply kc3)|exact HB.out)⟩⟩
      ·rw [if_neg c20] at H
       have c20b0 : (A == F) = false:=beq_eq_false_iff_ne.mpr c20;have c20b1 : (A != F) = true:=bne_iff_ne.mpr c20;have H':=ka H;clear H;go_wp2
       go_meet
       case rel=>exact ⟨_,(true),(by first|rfl|(simp;done)|(simp [*];done)),H',⟨by first|omega|exact al _⟩,⟨by repeat (first|(with_reducible first|exact HB.out|apply kc1|apply kc2|apply kc3)|exact HB.out)⟩⟩
     ·rw [if_neg c19] at H
      have c19b0 : (1 == q786) = false:=beq_eq_false_iff_ne.mpr c19;have c19b1 : (1 != q786) = true:=bne_iff_ne.mpr c19;have H':=ka H;clear H;go_wp2
      go_meet
      case rel=>exact ⟨_,(true),(by first|rfl|(simp;done)|(simp [*];done)),H',⟨by first|omega|exact al _⟩,⟨by repeat (first|(with_reducible first|exact HB.out|apply kc1|apply kc2|apply kc3)|exact HB.out)⟩⟩
  case rest=>
   clear Z;try clear c1
   try clear c4
   try clear c7
   try clear c7b0
   try clear c7b1
   obtain ⟨kq,x75_10,rfl,HA,d0,HB⟩:=hcut;cases kq with
   | zero=>exact absurd HA.out (by simp [trivetlaw18_PoolCuts.j0])
   | succ kj10=>
    have H:=HA.out;clear HA;simp only [trivetlaw18_PoolCuts.j0] at H
    by_cases c22 : x75_10 = true
    ·subst c22;have H1 : (none) = some r:=by rw [if_pos rfl] at H;exact H
     clear H;have H:=H1;clear H1;exact absurd H (by simp)
    ·replace c22:=aj.mpr c22;subst c22;have H1 : ((pool_Part.f kj10 a3 l4).bind fun I=>((trivetref03_May.f kj10 a3 l4).bind fun S=>(if S = true then (if m = true then (if I.2.isNone = true then ((aa kj10 a3 l4).bind fun E=>((ae kj10 I.1 E).bind fun D=>(some D))) else (none)) else (none)) else (if m = true then (if I.2.isNone = true then (none) else (if (I.2.getD 0) = 1 then (some ((I.1.length : Int) == 0)) else (none))) else (none))))) = some r:=by rw [if_neg (show ¬ (false = true) by decide)] at H;exact H
     clear H;have H:=H1;clear H1;replace H:=ad.mp H;obtain ⟨⟨K,L⟩,a7,H⟩:=H;replace H : ((trivetref03_May.f kj10 a3 l4).bind fun S=>(if S = true then (if m = true then (if L.isNone = true then ((aa kj10 a3 l4).bind fun E=>((ae kj10 K E).bind fun D=>(some D))) else (none)) else (none)) else (if m = true then (if L.isNone = true then (none) else (if (L.getD 0) = 1 then (some ((K.length : Int) == 0)) else (none))) else (none)))) = some r:=H;have b3:=ka a7;clear a7;replace H:=ad.mp H;obtain ⟨S,a8,H⟩:=H;replace H : (if S = true then (if m = true then (if L.isNone = true then ((aa kj10 a3 l4).bind fun E=>((ae kj10 K E).bind fun D=>(some D))) else (none)) else (none)) else (if m = true then (if L.isNone = true then (none) else (if (L.getD 0) = 1 then (some ((K.length : Int) == 0)) else (none))) else (none))) = some r:=H;have b4:=ka a8;clear a8;by_cases c25 : S = true
     ·subst c25;have H1 : (if m = true then (if L.isNone = true then ((aa kj10 a3 l4).bind fun E=>((ae kj10 K E).bind fun D=>(some D))) else (none)) else (none)) = some r:=by rw [if_pos rfl] at H;exact H
      clear H;have H:=H1;clear H1;by_cases c26 : m = true
      ·subst c26;have H1 : (if L.isNone = true then ((aa kj10 a3 l4).bind fun E=>((ae kj10 K E).bind fun D=>(some D))) else (none)) = some r:=by rw [if_pos rfl] at H;exact H
       clear H;have H:=H1;clear H1;rcases L with _|q792
       ·have H1 : ((aa kj10 a3 l4).bind fun E=>((ae kj10 K E).bind fun D=>(some D))) = some r:=by rw [if_pos (show (none : Option Int).isNone = true by rfl)] at H;exact H
        clear H;have H:=H1;clear H1;try simp only [af,ag]
        replace H:=ad.mp H;obtain ⟨E,a9,H⟩:=H;replace H : ((ae kj10 K E).bind fun D=>(some D)) = some r:=H;have c5:=ka a9;clear a9;replace H:=ad.mp H;obtain ⟨D,b0,H⟩:=H;replace H : (some D) = some r:=H;have c6:=ka b0;clear b0;obtain rfl:=Option.some.inj H;go_wp2_with (first|((with_reducible refine gate_callee (f:=12) rfl ?_);refine kg (some 79) rfl rfl Try.func12 (by kernel_rfl) rfl #[.int .i64 a3,.slice A4 l4.length c4] rfl ?_;(with_reducible refine (pool_Part.calls kj10 a3 _ _ l4 K none _ ?side1 ?side2 b3.out).mono ?_);(case side1=>repeat (first|exact (Kd.C_below HR4.out HB.out)|with_reducible first|refine Kd.C_alloc ?_ _|refine Kd.C_drewN ?_ _|refine Kd.C_drew ?_));(case side2=>exact Y.out);rintro e f3 ⟨b5,rfl,ho0,hb⟩;refine ⟨_,rfl,?_⟩;have O:=ka (Kd.R_lower ho0 (below_size (kw HB.out)));replace HB:=ka (below_step (kw HB.out) hb);(try clear hb ho0);(try simp only [af,ag]))|((with_reducible refine gate_callee (f:=15) rfl ?_);refine kg (some 84) rfl rfl Try.func15 (by kernel_rfl) rfl #[.int .i64 a3,.slice A4 l4.length c4] rfl ?_;(with_reducible refine (trivetref03_May.calls kj10 a3 _ _ l4 true _ ?side1 ?side2 b4.out).mono ?_);(case side1=>repeat (first|exact (Kd.C_below HR4.out HB.out)|with_reducible first|refine Kd.C_alloc ?_ _|refine Kd.C_drewN ?_ _|refine Kd.C_drew ?_));(case side2=>exact Y.out);rintro e w' ⟨rfl,⟨nd,rfl⟩⟩;refine ⟨_,rfl,?_⟩)|(go_at_call 16;(with_reducible refine (trivetref03_Shares.calls kj10 a3 _ _ l4 E _ ?side1 ?side2 c5.out).mono ?_);(case side1=>repeat (first|exact (Kd.C_below HR4.out (kw HB.out))|with_reducible first|refine Kd.C_alloc ?_ _|refine Kd.C_drewN ?_ _|refine Kd.C_drew ?_));(case side2=>exact Y.out);rintro e f4 ⟨d1,rfl,ho0,hb⟩;have X:=ka (Kd.R_lower (Kd.R_new' ho0 (Kd.R_lt (kr O.out))) (below_size (kw HB.out)));replace O:=ka (Kd.R_elder' (kr O.out) (Kd.R_base ho0) hb);replace HB:=ka (below_step (kw HB.out) hb);(try clear hb ho0);obtain ⟨d2,d3,b6⟩:=Kd.R_slice O.out;subst b6;obtain ⟨d4,d5,b7⟩:=Kd.R_slice X.out;subst b7)|(go_at_call 13;(with_reducible refine (trivetlaw14_Same.calls kj10 _ _ K _ _ E D _ ?side1 ?side2 ?side3 ?side4 c6.out).mono ?_);(case side1=>repeat (first|exact (Kd.R_reads' O.out).2.2|with_reducible first|refine Kd.C_alloc ?_ _|refine Kd.C_drewN ?_ _|refine Kd.C_drew ?_));(case side2=>exact (Kd.R_reads' O.out).2.1);(case side3=>repeat (first|exact (Kd.R_reads' X.out).2.2|with_reducible first|refine Kd.C_alloc ?_ _|refine Kd.C_drewN ?_ _|refine Kd.C_drew ?_));(case side4=>exact (Kd.R_reads' X.out).2.1);rintro e w' ⟨rfl,⟨nd,rfl⟩⟩))
        go_ret
        exact ⟨by first|rfl|(simp [af,ag] <;> rfl)|(simp [*,af,ag] <;> rfl),by repeat (first|(with_reducible first|exact HB.out|apply kc1|apply kc2|apply kc3)|exact HB.out)⟩
       ·have H1 : (none) = some r:=by rw [if_neg (show ¬ (some q792).isNone = true by simp)] at H;exact H
        clear H;have H:=H1;clear H1;try simp only [af,ag]
        exact absurd H (by simp)
      ·replace c26:=aj.mpr c26;subst c26;have H1 : (none) = some r:=by rw [if_neg (show ¬ (false = true) by decide)] at H;exact H
       clear H;have H:=H1;clear H1;exact absurd H (by simp)
     ·replace c25:=aj.mpr c25;subst c25;have H1 : (if m = true then (if L.isNone = true then (none) else (if (L.getD 0) = 1 then (some ((K.length : Int) == 0)) else (none))) else (none)) = some r:=by rw [if_neg (show ¬ (false = true) by decide)] at H;exact H
      clear H;have H:=H1;clear H1;by_cases c33 : m = true
      ·subst c33;have H1 : (if L.isNone = true then (none) else (if (L.getD 0) = 1 then (some ((K.length : Int) == 0)) else (none))) = some r:=by rw [if_pos rfl] at H;exact H
       clear H;have H:=H1;clear H1;rcases L with _|q797
       ·have H1 : (none) = some r:=by rw [if_pos (show (none : Option Int).isNone = true by rfl)] at H;exact H
        clear H;have H:=H1;clear H1;try simp only [af,ag]
        exact absurd H (by simp)
       ·have H1 : (if q797 = 1 then (some ((K.length : Int) == 0)) else (none)) = some r:=by rw [if_neg (show ¬ (some q797).isNone = true by simp)] at H;exact H
        clear H;have H:=H1;clear H1;try simp only [af,ag]
        by_cases c34 : q797 = 1
        ·rw [if_pos c34] at H
         have c34b0 : (q797 == 1) = true:=beq_iff_eq.mpr c34;have c34b1 : (q797 != 1) = false:=bne_eq_false_iff_eq.mpr c34;clear c34;obtain rfl:=Option.some.inj H;go_wp2_with (first|((with_reducible refine gate_callee (f:=12) rfl ?_);refine kg (some 79) rfl rfl Try.func12 (by kernel_rfl) rfl #[.int .i64 a3,.slice A4 l4.length c4] rfl ?_;(with_reducible refine (pool_Part.calls kj10 a3 _ _ l4 K (some q797) _ ?side1 ?side2 b3.out).mono ?_);(case side1=>repeat (first|exact (Kd.C_below HR4.out HB.out)|with_reducible first|refine Kd.C_alloc ?_ _|refine Kd.C_drewN ?_ _|refine Kd.C_drew ?_));(case side2=>exact Y.out);rintro e f5 ⟨b5,rfl,ho0,hb⟩;refine ⟨_,rfl,?_⟩;have O:=ka (Kd.R_lower ho0 (below_size (kw HB.out)));replace HB:=ka (below_step (kw HB.out) hb);(try clear hb ho0);(try simp only [af,ag]))|((with_reducible refine gate_callee (f:=15) rfl ?_);refine kg (some 84) rfl rfl Try.func15 (by kernel_rfl) rfl #[.int .i64 a3,.slice A4 l4.length c4] rfl ?_;(with_reducible refine (trivetref03_May.calls kj10 a3 _ _ l4 false _ ?side1 ?side2 b4.out).mono ?_);(case side1=>repeat (first|exact (Kd.C_below HR4.out HB.out)|with_reducible first|refine Kd.C_alloc ?_ _|refine Kd.C_drewN ?_ _|refine Kd.C_drew ?_));(case side2=>exact Y.out);rintro e w' ⟨rfl,⟨nd,rfl⟩⟩;refine ⟨_,rfl,?_⟩;obtain ⟨d6,d7,b8⟩:=Kd.R_slice O.out;subst b8))
         go_ret
         exact ⟨by first|rfl|(simp [af,ag] <;> rfl)|(simp [*,af,ag] <;> rfl),by repeat (first|(with_reducible first|exact HB.out|apply kc1|apply kc2|apply kc3)|exact HB.out)⟩
        ·rw [if_neg c34] at H
         exact absurd H (by simp)
      ·replace c33:=aj.mpr c33;subst c33;have H1 : (none) = some r:=by rw [if_neg (show ¬ (false = true) by decide)] at H;exact H
       clear H;have H:=H1;clear H1;exact absurd H (by simp)
/-- THE ONE PURE STATEMENT of trivetlaw18_PoolCuts: yours. -/
def trivetlaw18_PoolCuts.Pure : Prop:=∀ (a0 : Int) (a1 : Int) (a2 : Int) (a3 : Int) (l4 : List Int),(Lit.int .i64 a0).wf = true→(Lit.int .i64 a1).wf = true→(Lit.int .i64 a2).wf = true→(Lit.int .i64 a3).wf = true→l4.length≤maxLen→l4.length * 8≤140737488351232→(∀ x ∈ l4,(Lit.int .i64 x).wf = true)→∃ k,trivetlaw18_PoolCuts.f k a0 a1 a2 a3 l4 = some true
theorem trivetlaw18_PoolCuts.walk (P : trivetlaw18_PoolCuts.Pure) (a0 : Int) (a1 : Int) (a2 : Int) (a3 : Int) (a4 : Option Addr) (len4 cap4 : Nat) (z4 : List Int) (w : World) (w0 : (Lit.int .i64 a0).wf = true) (w1 : (Lit.int .i64 a1).wf = true) (w2 : (Lit.int .i64 a2).wf = true) (w3 : (Lit.int .i64 a3).wf = true) (w4 : (a4 = none∧len4 = 0∧cap4 = 0∧z4 = [])∨∃ x,a4 = some x∧len4≤cap4∧cap4≤maxLen∧z4.length = cap4∧(∀ i,i < z4.length→w.cell? (x.add i) = some (.int .i64 (z4.getD i 0)))∧∀ n ∈ z4,(Lit.int .i64 n).wf = true) (y4 : len4 * 8≤140737488351232) :
  Calls Try.prog 7 #[.int .i64 a0,.int .i64 a1,.int .i64 a2,.int .i64 a3,.slice a4 len4 cap4] w fun e w'=>e = .returned (.bool true)∧Below w.heap.size w w':=by
 obtain ⟨l4,rfl,hr4,hm4,hw4,hc4⟩:=ReadsInt.ofRowC w4;obtain ⟨k,h⟩:=P a0 a1 a2 a3 l4 w0 w1 w2 w3 hm4 y4 hw4;refine (trivetlaw18_PoolCuts.calls k a0 a1 a2 a3 _ _ l4 true w (Kd.C_of_reads (d:=(0 : Int)) (h1:=fun _=>rfl) hr4) hc4 h).mono ?_;rintro e w' ⟨rfl,hd⟩;exact ⟨rfl,hd⟩
end Go.Proofs.Ytghimjkoaldafaa.P
