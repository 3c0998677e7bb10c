-- Written by a program of this session out of the translation of the seat: Lean functions and the proofs that the Go functions come to them.
import Derived.Test.YtcpmfdagnchlbaaPx0
import Derived.Test.YtcpmfdagnchlbaaPx2
import Derived.Test.YtcpmfdagnchlbaaPx3
import Derived.Test.YtcpmfdagnchlbaaPx4
import Derived.Test.YtcpmfdagnchlbaaPx5
import Derived.Test.YtcpmfdagnchlbaaPx6
import Derived.Test.YtcpmfdagnchlbaaPx7
import Derived.Test.YtcpmfdagnchlbaaPx9
import Derived.Test.YtcpmfdagnchlbaaPx11
import Derived.Test.YtcpmfdagnchlbaaPx13
import Derived.Test.YtcpmfdagnchlbaaPx14
namespace Go.Proofs.Ytcpmfdagnchlbaa.P
open Go.RowKit Go.Proofs.YtcpmfdagnchlbaaW.PrintWords Go.Proofs.YtcpmfdagnchlbaaW.PrintLast Go.Proofs.YtcpmfdagnchlbaaW.PrintMore
attribute [local go_sem] max2_int min2_int max_two min_two max_three min_three max_four min_four   -- for this text's walks alone
set_option linter.unusedVariables false
set_option linter.unusedSimpArgs false

/-! ### trivetref03_Shares: function 13,its laws -/
/-- a place's rest,as a long number -/
def Rsh.cut (r : Int) : S34:=⟨(U.num r).1,(U.num r).2⟩
theorem Rsh.floor {n c : Int} (hc : 0 < c) : M.quo n c 1 = n / c:=by
 rw [Qu.quo_pos hc,if_pos (.inr rfl)]
theorem Rsh.rd_mem (l : List Int) (i : Nat) (h : i < l.length) : rd l (i : Int) ∈ l:=by
 have e : rd l (i : Int) = l[i]:=by
  unfold rd
  rw [Int.toNat_natCast,List.getD_eq_getElem?_getD,List.getElem?_eq_getElem h];rfl
 rw [e]
 exact List.getElem_mem h
theorem Rsh.drop_rd (l : List Int) (i : Nat) (h : i < l.length) : l.drop i = rd l (i : Int) :: l.drop (i + 1):=by
 have e : rd l (i : Int) = l[i]:=by
  unfold rd
  rw [Int.toNat_natCast,List.getD_eq_getElem?_getD,List.getElem?_eq_getElem h];rfl
 rw [e,List.drop_eq_getElem_cons h]
/-- all weights' sum -/
theorem trivetref03_Shares.sums (n : Nat) : ∀ (k i : Nat) (a s : Int) (l : List Int),l.length = i + n→l.length≤480→(∀ w ∈ l,0≤w∧w≤10000000000000)→0≤s∧s≤10000000000000 * (i : Int)→300≤k→
  trivetref03_Shares.l0 (k + n + 1) a l (i : Int) (U.num s).1 (U.num s).2 = trivetref03_Shares.l1 k a l [] [] a 0 (U.num (s + (l.drop i).sum)).1 (U.num (s + (l.drop i).sum)).2:=by
 induction n with
 | zero=>
  intro k i a s l hl hm hw hs hk;rw [Nat.add_zero,trivetref03_Shares.l0,if_neg (by omega),List.drop_eq_nil_of_le (by omega)]
  simp
 | succ n ih=>
  intro k i a s l hl hm hw hs hk;have p : (10000000000000000 : Int) < 65536 ^ 64:=by decide
  have hx:=hw _ (Rsh.rd_mem l i (by omega));have hd:=Rsh.drop_rd l i (by omega);have ih':=fun s=>ih k (i + 1) a s l (by omega) hm hw
  rw [show k + (n + 1) + 1 = (k + n + 1) + 1 by omega,trivetref03_Shares.l0,if_pos (by omega),if_pos (by omega),hd,List.sum_cons]
  generalize rd l (i : Int) = x at hx ⊢;rw [trivetref01_Of.num _ x (by unfold M.In;omega) (by omega),Option.bind_some,trivetref01_Add.num _ s x (by rw [Qu.abs_pos hs.1];omega) (by rw [Qu.abs_pos hx.1];omega) (by omega),Option.bind_some,M.w64_id (n:=(i : Int) + 1) (by omega) (by omega)]
  have h:=ih' (s + x) (by omega) hk;rw [Int.add_assoc] at h
  exact h
/-- the quotients and the rests -/
theorem trivetref03_Shares.parts (n : Nat) : ∀ (k i : Nat) (a all lf : Int) (l q : List Int) (c : List S34),l.length = i + n→l.length≤480→(∀ w ∈ l,0≤w∧w≤10000000000000)→0≤a∧a≤10000000000000→(∀ w ∈ l,w≤all)→0 < all∧all≤4800000000000000→q.length = i→c.length = i→-10000000000000 * (i : Int)≤lf∧lf≤10000000000000→7500≤k→
  trivetref03_Shares.l1 (k + n + 1) a l q c lf (i : Int) (U.num all).1 (U.num all).2 = trivetref03_Shares.l2 k l (q ++ Shr.qs a all (l.drop i)) (c ++ (Shr.rs a all (l.drop i)).map Rsh.cut) (lf - (Shr.qs a all (l.drop i)).sum) (List.replicate l.length false):=by
 induction n with
 | zero=>
  intro k i a all lf l q c hl hm hw ha hle hall hq hc hlf hk;rw [Nat.add_zero,trivetref03_Shares.l1,if_neg (by omega),if_pos (by omega),if_pos (by omega),List.drop_eq_nil_of_le (by omega)]
  simp [Shr.qs,Shr.rs]
 | succ n ih=>
  intro k i a all lf l q c hl hm hw ha hle hall hq hc hlf hk;have p1 : (100000000000000000000000000 : Int) < 65536 ^ 15:=by decide
  have p2 : (65536 : Int) ^ 15 < 65536 ^ 32:=by decide
  have p3 : (65536 : Int) ^ 32 < 65536 ^ 64:=by decide
  have hmem:=Rsh.rd_mem l i (by omega);have hx:=hw _ hmem;have hxa:=hle _ hmem;have hd:=Rsh.drop_rd l i (by omega);have ih':=fun lf q c=>ih k (i + 1) a all lf l q c (by omega) hm hw ha hle hall
  rw [show k + (n + 1) + 1 = (k + n + 1) + 1 by omega,trivetref03_Shares.l1,if_pos (by omega),hd]
  generalize rd l (i : Int) = x at hx hxa ⊢;have hp0 : 0≤a * x:=Int.mul_nonneg ha.1 hx.1;have hp1 : a * x≤10000000000000 * 10000000000000:=Int.mul_le_mul ha.2 hx.2 hx.1 (by decide);have hq0 : 0≤a * x / all:=Int.ediv_nonneg hp0 (by omega)
  have hq1 : a * x / all≤a:=by
   have h1 : a * x≤a * all:=Int.mul_le_mul_of_nonneg_left hxa ha.1;have h2:=Int.ediv_le_ediv (by omega : 0 < all) h1;rw [Int.mul_ediv_cancel _ (by omega : all≠0)] at h2
   exact h2
  have hr0:=Int.emod_nonneg (a * x) (show all≠0 by omega);have hr1:=Int.emod_lt_of_pos (a * x) (show 0 < all by omega);have hrest:=Qu.rest (x:=a * x) (c:=all);have hpp0 : 0≤a * x / all * all:=Int.mul_nonneg hq0 (by omega);have hpp1 : a * x / all * all≤a * x:=Int.ediv_mul_le _ (by omega);obtain ⟨v,t1,t2⟩:=trivetref01_To.num (k + n + 1) (a * x / all) (by omega) (by rw [Qu.abs_pos hq0];omega);have hin : M.In (a * x / all):=by unfold M.In;omega
  rw [t2 hin] at t1
  have ea:=Qu.abs_pos ha.1;have ex:=Qu.abs_pos hx.1;have eall:=Qu.abs_pos (show 0≤all by omega);rw [trivetref01_Of.num _ a (by unfold M.In;omega) (by omega),Option.bind_some,if_pos (by omega),trivetref01_Of.num _ x (by unfold M.In;omega) (by omega),Option.bind_some,trivetref01_Mul.num _ a x (by omega) (by omega) (by omega),Option.bind_some,trivetref01_Quotient.num _ (a * x) all 1 (by rw [Qu.abs_pos hp0];omega) (by omega) (by omega) (by omega),Option.bind_some,Rsh.floor (by omega),t1,Option.bind_some,if_pos (by omega),trivetref01_Mul.num _ (a * x / all) all (by rw [Qu.abs_pos hq0];omega) (by omega) (by omega),Option.bind_some,trivetref01_Neg.num _ (a * x / all * all) (by rw [Qu.abs_pos hpp0];omega) (by omega),Option.bind_some,trivetref01_Add.num _ (a * x) (-(a * x / all * all)) (by rw [Qu.abs_pos hp0];omega) (by rw [Qu.abs_neg hpp0];omega) (by omega),Option.bind_some,hrest,if_pos (by omega),M.w64_id (n:=(i : Int) + 1) (by omega) (by omega),M.w64_id (n:=lf - a * x / all) (by omega) (by omega)]
  have h:=ih' (lf - a * x / all) (q ++ [a * x / all]) (c ++ [Rsh.cut (a * x % all)]) (by simp [hq]) (by simp [hc]) (by omega) hk;refine h.trans ?_;simp only [Shr.qs,Shr.rs,List.map_cons,List.append_assoc,List.sum_cons,List.cons_append,List.nil_append]
  rw [show lf - (a * x / all + (List.map (fun w=>a * w / all) (l.drop (i + 1))).sum) = lf - a * x / all - (List.map (fun w=>a * w / all) (l.drop (i + 1))).sum by omega]
/-- the best of the first i places: none that isn't given,or one that stands ahead of all others that aren't -/
def Rsh.Best (R : List Int) (given : List Bool) (b : Int) (i : Nat) : Prop:=
 (b = -1∧∀ j : Nat,j < i→given.getD j false = true)∨∃ c : Nat,b = (c : Int)∧c < i∧given.getD c false = false∧∀ j : Nat,j < i→given.getD j false = false→j≠c→Srt.T R (c : Int) (j : Int)
theorem Rsh.cut_at (R : List Int) (j : Nat) (h : j < R.length) : rd_T34 (R.map Rsh.cut) (j : Int) = Rsh.cut (rd R (j : Int)):=by
 unfold rd_T34 rd
 rw [Int.toNat_natCast,List.getD_eq_getElem?_getD,List.getD_eq_getElem?_getD,List.getElem?_map,List.getElem?_eq_getElem h];rfl
theorem trivetref03_Shares.scan (n : Nat) : ∀ (k i : Nat) (b lf : Int) (l q R : List Int) (given : List Bool),l.length = i + n→l.length≤480→R.length = l.length→given.length = l.length→(∀ r ∈ R,0≤r∧r < 100000000000000000)→Rsh.Best R given b i→300≤k→
  ∃ b',trivetref03_Shares.l3 (k + n + 1) l q (R.map Rsh.cut) lf given b (i : Int) = trivetref03_Shares.l3 (k + 1) l q (R.map Rsh.cut) lf given b' (l.length : Int)∧Rsh.Best R given b' l.length:=by
 induction n with
 | zero=>
  intro k i b lf l q R given hl hm hR hg hr hb hk;obtain rfl : i = l.length:=by omega
  exact ⟨b,rfl,hb⟩
 | succ n ih=>
  intro k i b lf l q R given hl hm hR hg hr hb hk;have p : (100000000000000000 : Int) < 65536 ^ 32:=by decide
  have ih':=fun b=>ih k (i + 1) b lf l q R given (by omega) hm hR hg hr
  have hgi : rdOf false given (i : Int) = given.getD i false:=rfl;rw [show k + (n + 1) + 1 = (k + n + 1) + 1 by omega,trivetref03_Shares.l3,if_pos (by omega),if_pos (by omega),if_pos (by omega),hgi,M.w64_id (n:=(i : Int) + 1) (by omega) (by omega),show (i : Int) + 1 = ((i + 1 : Nat) : Int) by omega]
  cases hgv : given.getD i false with
  | true=>
   rw [if_pos rfl]
   refine ih' b ?_ hk;rcases hb with ⟨h1,h2⟩|⟨c,h1,h2,h3,h4⟩
   ·exact .inl ⟨h1,fun j hj=>by
     by_cases e : j = i
     ·rw [e];exact hgv
     ·exact h2 j (by omega)⟩
   ·exact .inr ⟨c,h1,by omega,h3,fun j hj hj2 hj3=>by
     by_cases e : j = i
     ·rw [e,hgv] at hj2;cases hj2
     ·exact h4 j (by omega) hj2 hj3⟩
  | false=>
   rw [if_neg (by decide)]
   rcases hb with ⟨h1,h2⟩|⟨c,h1,h2,h3,h4⟩
   ·rw [h1,if_pos (by decide)]
    refine ih' (i : Int) (.inr ⟨i,rfl,by omega,hgv,fun j hj hj2 hj3=>?_⟩) hk;have:=h2 j (by omega);rw [hj2] at this
    cases this
   ·have ri:=hr _ (Rsh.rd_mem R i (by omega));have rc:=hr _ (Rsh.rd_mem R c (by omega));have ai:=Qu.abs_pos ri.1;have ac:=Qu.abs_pos rc.1;have e1 : (Rsh.cut (rd R (i : Int))).f0 = (U.num (rd R (i : Int))).1:=rfl;have e2 : (Rsh.cut (rd R (i : Int))).f1 = (U.num (rd R (i : Int))).2:=rfl;have e3 : (Rsh.cut (rd R (c : Int))).f0 = (U.num (rd R (c : Int))).1:=rfl;have e4 : (Rsh.cut (rd R (c : Int))).f1 = (U.num (rd R (c : Int))).2:=rfl;have hlen : (R.map Rsh.cut).length = l.length:=by simp [hR]
    rw [h1,if_neg (by omega),if_pos (by omega),if_pos (by omega),if_pos (by omega),Rsh.cut_at R i (by omega),Rsh.cut_at R c (by omega),e1,e2,e3,e4,trivetref01_Cmp.num _ (rd R (i : Int)) (rd R (c : Int)) (by omega) (by omega) (by omega),Option.bind_some]
    by_cases g : rd R (i : Int) > rd R (c : Int)
    ·rw [if_neg (show ¬ rd R (i : Int) = rd R (c : Int) by omega),if_neg (show ¬ rd R (i : Int) < rd R (c : Int) by omega),if_pos (by decide)]
     refine ih' (i : Int) (.inr ⟨i,rfl,by omega,hgv,fun j hj hj2 hj3=>?_⟩) hk;left
     by_cases e : j = c
     ·rw [e];exact g
     ·have:=h4 j (by omega) hj2 e;unfold Srt.T at this
      omega
    ·have e : ¬ (if rd R (i : Int) = rd R (c : Int) then (0 : Int) else if rd R (i : Int) < rd R (c : Int) then -1 else 1) > 0:=by
      by_cases g2 : rd R (i : Int) = rd R (c : Int)
      ·rw [if_pos g2];decide
      ·rw [if_neg g2,if_pos (by omega)];decide
     rw [if_neg e]
     refine ih' (c : Int) (.inr ⟨c,rfl,by omega,h3,fun j hj hj2 hj3=>?_⟩) hk;by_cases ej : j = i
     ·subst ej;unfold Srt.T
      omega
     ·exact h4 j (by omega) hj2 hj3
theorem Rsh.inc_snoc (q o : List Int) (x : Int) : Shr.inc q (o ++ [x]) = (Shr.inc q o).set x.toNat (rd (Shr.inc q o) x + 1):=by
 unfold Shr.inc
 rw [List.foldl_append];rfl
/-- pick by pick: the places in Shr's order -/
theorem trivetref03_Shares.picks {a : Int} {l : List Int} (h : Shr.may a l) (n : Nat) : ∀ (k t : Nat) (given : List Bool),t + n≤l.length→given.length = l.length→(∀ j : Nat,j < l.length→(given.getD j false = true ↔ (j : Int) ∈ (Shr.ord a l).take t))→n * (l.length + 3) + 400≤k→
  trivetref03_Shares.l2 k l (Shr.inc (Shr.qs a l.sum l) ((Shr.ord a l).take t)) ((Shr.rs a l.sum l).map Rsh.cut) (n : Int) given = some (Shr.inc (Shr.qs a l.sum l) ((Shr.ord a l).take (t + n))):=by
 obtain ⟨o1,o2,o3,o4⟩:=Shr.order h;have hRl : (Shr.rs a l.sum l).length = l.length:=by simp [Shr.rs]
 have hall:=Shr.sum_nn h.2.2.2.1;have hm:=h.2.2.1
 have hr : ∀ r ∈ Shr.rs a l.sum l,0≤r∧r < 100000000000000000:=by
  intro r hr;obtain ⟨w,hw,rfl⟩:=List.mem_map.mp hr;have h5:=h.2.2.2.2;have:=Int.emod_nonneg (a * w) (show l.sum≠0 by omega);have:=Int.emod_lt_of_pos (a * w) h5;omega
 induction n with
 | zero=>
  intro k t given ht hg hgi hk;obtain ⟨j,rfl⟩ : ∃ j,k = j + 1:=⟨k - 1,by omega⟩
  rw [trivetref03_Shares.l2,if_neg (by omega),Nat.add_zero]
 | succ n ih=>
  intro k t given ht hg hgi hk;have hk2 : n * (l.length + 3) + (l.length + 3) + 400≤k:=by rw [Nat.succ_mul] at hk;exact hk
  obtain ⟨j,rfl⟩ : ∃ j,k = (j + l.length + 1) + 1:=⟨k - l.length - 2,by omega⟩
  obtain ⟨b,s1,s2⟩:=trivetref03_Shares.scan l.length j 0 (-1) ((n + 1 : Nat) : Int) l (Shr.inc (Shr.qs a l.sum l) ((Shr.ord a l).take t)) (Shr.rs a l.sum l) given (by omega) hm hRl hg hr (.inl ⟨rfl,fun j hj=>by omega⟩) (by omega);have hto : t < (Shr.ord a l).length:=by omega
  obtain ⟨c,hc⟩ : ∃ c,c = (Shr.ord a l)[t]:=⟨_,rfl⟩
  have hcin : 0≤c∧c < (l.length : Int):=Srt.mem_upto.mp (o1.mem_iff.mp (hc ▸ List.getElem_mem hto))
  have hnot : c ∉ (Shr.ord a l).take t:=by
   intro hmem;obtain ⟨i,hi,e⟩:=List.getElem_of_mem hmem;rw [List.getElem_take] at e
   have hi2 : i < t:=by simp at hi;omega
   have:=(List.pairwise_iff_getElem.mp o3) i t (by omega) hto hi2;exact this (e.trans hc)
  have hbc : b = c:=by
   rcases s2 with ⟨_,g2⟩|⟨bn,g1,g2,g3,g4⟩
   ·have:=(hgi c.toNat (by omega)).mp (g2 c.toNat (by omega));rw [show ((c.toNat : Nat) : Int) = c by omega] at this
    exact absurd this hnot
   ·rcases Decidable.em (bn = c.toNat) with e|e
    ·omega
    ·exfalso
     have hcf : given.getD c.toNat false = false:=by
      cases hv : given.getD c.toNat false with
      | false=>rfl
      | true=>
       have:=(hgi c.toNat (by omega)).mp hv;rw [show ((c.toNat : Nat) : Int) = c by omega] at this
       exact absurd this hnot
     have t1:=g4 c.toNat (by omega) hcf (fun h=>e h.symm);rw [show ((c.toNat : Nat) : Int) = c by omega] at t1
     have hbm : (bn : Int) ∈ Shr.ord a l:=o1.mem_iff.mpr (Srt.mem_upto.mpr ⟨by omega,by omega⟩);obtain ⟨i,hi,ei⟩:=List.getElem_of_mem hbm
     have hbt : ¬ i < t:=by
      intro hit
      have : (bn : Int) ∈ (Shr.ord a l).take t:=by
       rw [← ei]
       exact List.mem_take_iff_getElem.mpr ⟨i,by omega,rfl⟩
      have:=(hgi bn g2).mpr this;rw [g3] at this
      cases this
     have hne : i≠t:=by
      rintro rfl;rw [ei] at hc
      omega
     have t2:=(List.pairwise_iff_getElem.mp o2) t i hto hi (by omega);rw [ei,← hc] at t2
     unfold Srt.T at t1 t2
     omega
  subst hbc;have e0 : ((0 : Nat) : Int) = 0:=rfl;rw [e0] at s1
  have hql : (Shr.inc (Shr.qs a l.sum l) ((Shr.ord a l).take t)).length = l.length:=by rw [Shr.inc_len];simp [Shr.qs]
  have htake : (Shr.ord a l).take (t + 1) = (Shr.ord a l).take t ++ [b]:=by
   rw [List.take_add_one,List.getElem?_eq_getElem hto,← hc];rfl
  have hq0 : 0≤rd (Shr.inc (Shr.qs a l.sum l) ((Shr.ord a l).take t)) b∧rd (Shr.inc (Shr.qs a l.sum l) ((Shr.ord a l).take t)) b≤1000000000000000:=by
   have hnd : ((Shr.ord a l).take t).Nodup:=List.Pairwise.sublist (List.take_sublist _ _) o3;have hqq : (Shr.qs a l.sum l).length = l.length:=by simp [Shr.qs]
   have hin : ∀ x ∈ (Shr.ord a l).take t,0≤x∧x < ((Shr.qs a l.sum l).length : Int):=fun x hx=>by
    rw [hqq]
    exact Srt.mem_upto.mp (o1.mem_iff.mp (List.mem_of_mem_take hx))
   have g:=Shr.inc_get _ _ hnd hin b.toNat;rw [show ((b.toNat : Nat) : Int) = b by omega] at g
   obtain ⟨w,hw,e⟩:=List.mem_map.mp (Rsh.rd_mem (Shr.qs a l.sum l) b.toNat (by omega));rw [show ((b.toNat : Nat) : Int) = b by omega] at e
   have hw1:=h.2.2.2.1 w hw;have hw2:=Shr.le_sum (fun z hz=>(h.2.2.2.1 z hz).1) w hw;have h0:=h.1;have h1:=h.2.1;have h5:=h.2.2.2.2;have q0 : 0≤a * w / l.sum:=Int.ediv_nonneg (Int.mul_nonneg h0 hw1.1) (by omega)
   have q1 : a * w / l.sum≤a:=by
    have z1 : a * w≤a * l.sum:=Int.mul_le_mul_of_nonneg_left hw2 h0;have z2:=Int.ediv_le_ediv h5 z1;rw [Int.mul_ediv_cancel _ (by omega : l.sum≠0)] at z2
    exact z2
   rw [g,← e]
   split <;> omega
  rw [trivetref03_Shares.l2,if_pos (by omega),s1,trivetref03_Shares.l3,if_neg (by omega),if_neg (by omega),if_pos (by omega),if_pos (by omega),if_pos (by omega),M.w64_id (n:=rd (Shr.inc (Shr.qs a l.sum l) ((Shr.ord a l).take t)) b + 1) (by omega) (by omega),M.w64_id (n:=((n + 1 : Nat) : Int) - 1) (by omega) (by omega),← Rsh.inc_snoc,← htake,show ((n + 1 : Nat) : Int) - 1 = (n : Int) by omega,show t + (n + 1) = (t + 1) + n by omega]
  refine ih j (t + 1) (given.set b.toNat true) (by omega) (by simp [hg]) (fun x hx=>?_) (by omega);rw [htake,List.mem_append,List.mem_singleton,← hgi x hx]
  by_cases e : x = b.toNat
  ·subst e;rw [List.getD_eq_getElem?_getD,List.getElem?_set_self (by omega)]
   simp;omega
  ·rw [List.getD_eq_getElem?_getD,List.getElem?_set_ne (fun h=>e h.symm),← List.getD_eq_getElem?_getD]
   constructor
   ·intro g;exact .inl g
   ·rintro (g|g)
    ·exact g
    ·omega
theorem trivetref03_Shares.num (k : Nat) {a : Int} {l : List Int} (h : Shr.may a l) (hk : 300000≤k) : trivetref03_Shares.f k a l = some (Shr.sh a l):=by
 have hm:=h.2.2.1;have hs:=Shr.sum_nn h.2.2.2.1;have hle:=Shr.le_sum (fun z hz=>(h.2.2.2.1 z hz).1);have hlf:=Shr.left_in h;obtain ⟨J,rfl⟩ : ∃ J,k = (J + l.length + 1) + l.length + 1:=⟨k - l.length - l.length - 2,by omega⟩
 have e0 : ((0 : Nat) : Int) = 0:=rfl;have n0 : U.num 0 = ([],false):=by simp [U.num,M.abs,U.dig_zero]
 have s:=trivetref03_Shares.sums l.length (J + l.length + 1) 0 a 0 l (by omega) hm h.2.2.2.1 (by simp) (by omega);rw [e0,n0,List.drop_zero,Int.zero_add] at s
 have p:=trivetref03_Shares.parts l.length J 0 a l.sum a l [] [] (by omega) hm h.2.2.2.1 ⟨h.1,h.2.1⟩ hle ⟨h.2.2.2.2,by omega⟩ rfl rfl (by have:=h.1;have:=h.2.1;omega) (by omega);rw [e0,List.drop_zero,List.nil_append,List.nil_append] at p
 have hb : (Shr.left a l).toNat * (l.length + 3)≤480 * 483:=Nat.mul_le_mul (by unfold Shr.left;omega) (by omega)
 have q:=trivetref03_Shares.picks h (Shr.left a l).toNat J 0 (List.replicate l.length false) (by unfold Shr.left;omega) (by simp) (fun j hj=>by
  rw [List.getD_eq_getElem?_getD,List.getElem?_replicate,if_pos hj]
  simp) (by omega)
 rw [List.take_zero,Nat.zero_add,show (((Shr.left a l).toNat : Nat) : Int) = a - (Shr.qs a l.sum l).sum by unfold Shr.left;omega] at q
 unfold trivetref03_Shares.f
 exact s.trans (p.trans q)

/-! ### trivetlaw03_SplitShares: function 3 -/
def trivetlaw03_SplitShares.f (k : Nat) (a0 : Int) (l1 : List Int) : Option (Bool):=(trivetlaw03_up.f k).bind fun u=>(if (l1.length : Int) > 500 then (some u) else ((split_Shares.f k a0 l1).bind fun m=>((trivetref03_May.f k a0 l1).bind fun F=>(if F = true then (if u = true then (if m.2.isNone = true then ((trivetref03_Shares.f k a0 l1).bind fun A=>((trivetlaw03_same.f k m.1 A).bind fun y=>(some y))) else (none)) else (none)) else (if u = true then (if m.2.isNone = true then (none) else (if (m.2.getD 0) = 1 then (some ((m.1.length : Int) == 0)) else (none))) else (none))))))
set_option maxHeartbeats 8000000 in
set_option maxRecDepth 100000 in
theorem trivetlaw03_SplitShares.calls (k : Nat) (a0 : Int) (K : Option Addr) (c1 : Nat) (l1 : List Int) (r : Bool) (w : World) (hr1 : Kd.C (Kd.int .i64) w K l1.length l1) (hc1 : l1.length≤c1) (h : trivetlaw03_SplitShares.f k a0 l1 = some r) :
  Calls Try.prog 3 #[.int .i64 a0,.slice K l1.length c1] w fun e w'=>e = .returned (.bool r)∧Below w.heap.size w w':=by
 have hu25:=Try.underlying25;have hu29:=Try.underlying29;have HR1:=ka hr1;have I:=ka hc1;clear hr1 hc1;have HB:=ka (Below.refl w.heap.size w);have H : ((trivetlaw03_up.f k).bind fun u=>(if (l1.length : Int) > 500 then (some u) else ((split_Shares.f k a0 l1).bind fun m=>((trivetref03_May.f k a0 l1).bind fun F=>(if F = true then (if u = true then (if m.2.isNone = true then ((trivetref03_Shares.f k a0 l1).bind fun A=>((trivetlaw03_same.f k m.1 A).bind fun y=>(some y))) else (none)) else (none)) else (if u = true then (if m.2.isNone = true then (none) else (if (m.2.getD 0) = 1 then (some ((m.1.length : Int) == 0)) else (none))) else (none))))))) = some r:=h;clear h;replace H:=Option.bind_eq_some_iff.mp H;obtain ⟨u,O,H⟩:=H;replace H : (if (l1.length : Int) > 500 then (some u) else ((split_Shares.f k a0 l1).bind fun m=>((trivetref03_May.f k a0 l1).bind fun F=>(if F = true then (if u = true then (if m.2.isNone = true then ((trivetref03_Shares.f k a0 l1).bind fun A=>((trivetlaw03_same.f k m.1 A).bind fun y=>(some y))) else (none)) else (none)) else (if u = true then (if m.2.isNone = true then (none) else (if (m.2.getD 0) = 1 then (some ((m.1.length : Int) == 0)) else (none))) else (none)))))) = some r:=H;have V:=ka O;clear O;by_cases c4 : (l1.length : Int) > 500
 ·rw [if_pos c4] at H
  have c4b0 : decide (500 < (l1.length : Int)) = true:=decide_eq_true c4;have c4b1 : decide (500 < l1.length) = true:=decide_eq_true (by omega);clear c4;obtain rfl:=Option.some.inj H;go_enter Try.func3,Try.ntmps3
  go_wp2_with (first|((with_reducible refine gate_callee (f:=9) rfl ?_);refine kg (some 9) rfl rfl Try.func9 (by kernel_rfl) rfl #[] rfl ?_;(with_reducible refine (trivetlaw03_up.calls k  u _ V.out).mono ?_);rintro e w5 ⟨rfl,hb⟩;refine ⟨_,rfl,?_⟩;replace HB:=ka (below_step (kw HB.out) hb);(try clear hb);(try clear hb2);(try clear hk);(try clear hi)))
  go_ret
  exact ⟨by first|rfl|(simp [errW_none,errW_some] <;> rfl)|(simp [*,errW_none,errW_some] <;> rfl),by repeat (first|(with_reducible first|exact HB.out|apply kc1|apply kc2|apply kc3)|exact HB.out)⟩
 ·rw [if_neg c4] at H
  have c4b0 : decide (500 < (l1.length : Int)) = false:=decide_eq_false c4;have c4b1 : decide (500 < l1.length) = false:=decide_eq_false (by omega);clear c4;replace H:=Option.bind_eq_some_iff.mp H;obtain ⟨⟨B,D⟩,Q,H⟩:=H;replace H : ((trivetref03_May.f k a0 l1).bind fun F=>(if F = true then (if u = true then (if D.isNone = true then ((trivetref03_Shares.f k a0 l1).bind fun A=>((trivetlaw03_same.f k B A).bind fun y=>(some y))) else (none)) else (none)) else (if u = true then (if D.isNone = true then (none) else (if (D.getD 0) = 1 then (some ((B.length : Int) == 0)) else (none))) else (none)))) = some r:=H;have A6:=ka Q;clear Q;replace H:=Option.bind_eq_some_iff.mp H;obtain ⟨F,S,H⟩:=H;replace H : (if F = true then (if u = true then (if D.isNone = true then ((trivetref03_Shares.f k a0 l1).bind fun A=>((trivetlaw03_same.f k B A).bind fun y=>(some y))) else (none)) else (none)) else (if u = true then (if D.isNone = true then (none) else (if (D.getD 0) = 1 then (some ((B.length : Int) == 0)) else (none))) else (none))) = some r:=H;have A7:=ka S;clear S;by_cases c8 : F = true
  ·subst c8;have H1 : (if u = true then (if D.isNone = true then ((trivetref03_Shares.f k a0 l1).bind fun A=>((trivetlaw03_same.f k B A).bind fun y=>(some y))) else (none)) else (none)) = some r:=by rw [if_pos rfl] at H;exact H
   clear H;have H:=H1;clear H1;by_cases c9 : u = true
   ·subst c9;have H1 : (if D.isNone = true then ((trivetref03_Shares.f k a0 l1).bind fun A=>((trivetlaw03_same.f k B A).bind fun y=>(some y))) else (none)) = some r:=by rw [if_pos rfl] at H;exact H
    clear H;have H:=H1;clear H1;rcases D with _|q712
    ·have H1 : ((trivetref03_Shares.f k a0 l1).bind fun A=>((trivetlaw03_same.f k B A).bind fun y=>(some y))) = some r:=by rw [if_pos (show (none : Option Int).isNone = true by rfl)] at H;exact H
     clear H;have H:=H1;clear H1;try simp only [errW_none,errW_some]
     replace H:=Option.bind_eq_some_iff.mp H;obtain ⟨A,L,H⟩:=H;replace H : ((trivetlaw03_same.f k B A).bind fun y=>(some y)) = some r:=H;have a4:=ka L;clear L;replace H:=Option.bind_eq_some_iff.mp H;obtain ⟨y,N,H⟩:=H;replace H : (some y) = some r:=H;have a5:=ka N;clear N;obtain rfl:=Option.some.inj H;go_enter Try.func3,Try.ntmps3
     go_wp2_with (first|((with_reducible refine gate_callee (f:=9) rfl ?_);refine kg (some 9) rfl rfl Try.func9 (by kernel_rfl) rfl #[] rfl ?_;(with_reducible refine (trivetlaw03_up.calls k  true _ V.out).mono ?_);rintro e b5 ⟨rfl,hb⟩;refine ⟨_,rfl,?_⟩;replace HB:=ka (below_step (kw HB.out) hb);(try clear hb);(try clear hb2);(try clear hk);(try clear hi))|((with_reducible refine gate_callee (f:=10) rfl ?_);refine kg (some 17) rfl rfl Try.func10 (by kernel_rfl) rfl #[.int .i64 a0,.slice K l1.length c1] rfl ?_;(with_reducible refine (split_Shares.calls k a0 _ _ l1 B none _ ?side1 ?side2 A6.out).mono ?_);(case side1=>repeat (first|exact (Kd.C_below HR1.out HB.out)|(with_reducible refine Kd.C_alloc ?_ _)|(with_reducible refine Kd.C_drewN ?_ _)|(with_reducible refine Kd.C_drew ?_)));(case side2=>exact I.out);rintro e b6 ⟨W,rfl,ho0,hb⟩;refine ⟨_,rfl,?_⟩;have E:=ka (Kd.R_lower ho0 (below_size (kw HB.out)));replace HB:=ka (below_step (kw HB.out) hb);(try clear hb);(try clear hb2);(try clear hk);(try clear hi);(try clear ho0);(try simp only [errW_none,errW_some]))|((with_reducible refine gate_callee (f:=11) rfl ?_);refine kg (some 22) rfl rfl Try.func11 (by kernel_rfl) rfl #[.int .i64 a0,.slice K l1.length c1] rfl ?_;(with_reducible refine (trivetref03_May.calls k a0 _ _ l1 true _ ?side1 ?side2 A7.out).mono ?_);(case side1=>repeat (first|exact (Kd.C_below HR1.out HB.out)|(with_reducible refine Kd.C_alloc ?_ _)|(with_reducible refine Kd.C_drewN ?_ _)|(with_reducible refine Kd.C_drew ?_)));(case side2=>exact I.out);rintro e w' ⟨rfl,⟨nd,rfl⟩⟩;refine ⟨_,rfl,?_⟩)|(go_at_call 13;(with_reducible refine (trivetref03_Shares.calls k a0 _ _ l1 A _ ?side1 ?side2 a4.out).mono ?_);(case side1=>repeat (first|exact (Kd.C_below HR1.out (kw HB.out))|(with_reducible refine Kd.C_alloc ?_ _)|(with_reducible refine Kd.C_drewN ?_ _)|(with_reducible refine Kd.C_drew ?_)));(case side2=>exact I.out);rintro e b7 ⟨a6,rfl,ho0,hb⟩;have G:=ka (Kd.R_lower (Kd.R_new' ho0 (Kd.R_lt (kr E.out))) (below_size (kw HB.out)));replace E:=ka (Kd.R_elder' (kr E.out) (Kd.R_base ho0) hb);replace HB:=ka (below_step (kw HB.out) hb);(try clear hb);(try clear hb2);(try clear hk);(try clear hi);(try clear ho0);obtain ⟨a7,a8,X⟩:=Kd.R_slice E.out;subst X;obtain ⟨a9,b0,Y⟩:=Kd.R_slice G.out;subst Y)|(go_at_call 12;(with_reducible refine (trivetlaw03_same.calls k _ _ B _ _ A y _ ?side1 ?side2 ?side3 ?side4 a5.out).mono ?_);(case side1=>repeat (first|exact (Kd.R_reads' E.out).2.2|(with_reducible refine Kd.C_alloc ?_ _)|(with_reducible refine Kd.C_drewN ?_ _)|(with_reducible refine Kd.C_drew ?_)));(case side2=>exact (Kd.R_reads' E.out).2.1);(case side3=>repeat (first|exact (Kd.R_reads' G.out).2.2|(with_reducible refine Kd.C_alloc ?_ _)|(with_reducible refine Kd.C_drewN ?_ _)|(with_reducible refine Kd.C_drew ?_)));(case side4=>exact (Kd.R_reads' G.out).2.1);rintro e w' ⟨rfl,⟨nd,rfl⟩⟩))
     go_ret
     exact ⟨by first|rfl|(simp [errW_none,errW_some] <;> rfl)|(simp [*,errW_none,errW_some] <;> rfl),by repeat (first|(with_reducible first|exact HB.out|apply kc1|apply kc2|apply kc3)|exact HB.out)⟩
    ·have H1 : (none) = some r:=by rw [if_neg (show ¬ (some q712).isNone = true by simp)] at H;exact H
     clear H;have H:=H1;clear H1;try simp only [errW_none,errW_some]
     exact absurd H (by simp)
   ·replace c9:=Bool.eq_false_iff.mpr c9;subst c9;have H1 : (none) = some r:=by rw [if_neg (show ¬ (false = true) by decide)] at H;exact H
    clear H;have H:=H1;clear H1;exact absurd H (by simp)
  ·replace c8:=Bool.eq_false_iff.mpr c8;subst c8;have H1 : (if u = true then (if D.isNone = true then (none) else (if (D.getD 0) = 1 then (some ((B.length : Int) == 0)) else (none))) else (none)) = some r:=by rw [if_neg (show ¬ (false = true) by decide)] at H;exact H
   clear H;have H:=H1;clear H1;by_cases c17 : u = true
   ·subst c17;have H1 : (if D.isNone = true then (none) else (if (D.getD 0) = 1 then (some ((B.length : Int) == 0)) else (none))) = some r:=by rw [if_pos rfl] at H;exact H
    clear H;have H:=H1;clear H1;rcases D with _|q717
    ·have H1 : (none) = some r:=by rw [if_pos (show (none : Option Int).isNone = true by rfl)] at H;exact H
     clear H;have H:=H1;clear H1;try simp only [errW_none,errW_some]
     exact absurd H (by simp)
    ·have H1 : (if q717 = 1 then (some ((B.length : Int) == 0)) else (none)) = some r:=by rw [if_neg (show ¬ (some q717).isNone = true by simp)] at H;exact H
     clear H;have H:=H1;clear H1;try simp only [errW_none,errW_some]
     by_cases c18 : q717 = 1
     ·rw [if_pos c18] at H
      have c18b0 : (q717 == 1) = true:=beq_iff_eq.mpr c18;have c18b1 : (q717 != 1) = false:=bne_eq_false_iff_eq.mpr c18;clear c18;obtain rfl:=Option.some.inj H;go_enter Try.func3,Try.ntmps3
      go_wp2_with (first|((with_reducible refine gate_callee (f:=9) rfl ?_);refine kg (some 9) rfl rfl Try.func9 (by kernel_rfl) rfl #[] rfl ?_;(with_reducible refine (trivetlaw03_up.calls k  true _ V.out).mono ?_);rintro e b8 ⟨rfl,hb⟩;refine ⟨_,rfl,?_⟩;replace HB:=ka (below_step (kw HB.out) hb);(try clear hb);(try clear hb2);(try clear hk);(try clear hi))|((with_reducible refine gate_callee (f:=10) rfl ?_);refine kg (some 17) rfl rfl Try.func10 (by kernel_rfl) rfl #[.int .i64 a0,.slice K l1.length c1] rfl ?_;(with_reducible refine (split_Shares.calls k a0 _ _ l1 B (some q717) _ ?side1 ?side2 A6.out).mono ?_);(case side1=>repeat (first|exact (Kd.C_below HR1.out HB.out)|(with_reducible refine Kd.C_alloc ?_ _)|(with_reducible refine Kd.C_drewN ?_ _)|(with_reducible refine Kd.C_drew ?_)));(case side2=>exact I.out);rintro e b9 ⟨W,rfl,ho0,hb⟩;refine ⟨_,rfl,?_⟩;have E:=ka (Kd.R_lower ho0 (below_size (kw HB.out)));replace HB:=ka (below_step (kw HB.out) hb);(try clear hb);(try clear hb2);(try clear hk);(try clear hi);(try clear ho0);(try simp only [errW_none,errW_some]))|((with_reducible refine gate_callee (f:=11) rfl ?_);refine kg (some 22) rfl rfl Try.func11 (by kernel_rfl) rfl #[.int .i64 a0,.slice K l1.length c1] rfl ?_;(with_reducible refine (trivetref03_May.calls k a0 _ _ l1 false _ ?side1 ?side2 A7.out).mono ?_);(case side1=>repeat (first|exact (Kd.C_below HR1.out HB.out)|(with_reducible refine Kd.C_alloc ?_ _)|(with_reducible refine Kd.C_drewN ?_ _)|(with_reducible refine Kd.C_drew ?_)));(case side2=>exact I.out);rintro e w' ⟨rfl,⟨nd,rfl⟩⟩;refine ⟨_,rfl,?_⟩;obtain ⟨b1,b2,Z⟩:=Kd.R_slice E.out;subst Z))
      go_ret
      exact ⟨by first|rfl|(simp [errW_none,errW_some] <;> rfl)|(simp [*,errW_none,errW_some] <;> rfl),by repeat (first|(with_reducible first|exact HB.out|apply kc1|apply kc2|apply kc3)|exact HB.out)⟩
     ·rw [if_neg c18] at H
      exact absurd H (by simp)
   ·replace c17:=Bool.eq_false_iff.mpr c17;subst c17;have H1 : (none) = some r:=by rw [if_neg (show ¬ (false = true) by decide)] at H;exact H
    clear H;have H:=H1;clear H1;exact absurd H (by simp)

/-- THE ONE PURE STATEMENT of trivetlaw03_SplitShares: yours. -/
def trivetlaw03_SplitShares.Pure : Prop:=∀ (a0 : Int) (l1 : List Int),(Lit.int .i64 a0).wf = true→l1.length≤maxLen→l1.length * 8≤140737488351232→(∀ x ∈ l1,(Lit.int .i64 x).wf = true)→∃ k,trivetlaw03_SplitShares.f k a0 l1 = some true
theorem trivetlaw03_SplitShares.walk (P : trivetlaw03_SplitShares.Pure) (a0 : Int) (a1 : Option Addr) (len1 cap1 : Nat) (z1 : List Int) (w : World) (w0 : (Lit.int .i64 a0).wf = true) (w1 : (a1 = none∧len1 = 0∧cap1 = 0∧z1 = [])∨∃ x,a1 = some x∧len1≤cap1∧cap1≤maxLen∧z1.length = cap1∧(∀ i,i < z1.length→w.cell? (x.add i) = some (.int .i64 (z1.getD i 0)))∧∀ n ∈ z1,(Lit.int .i64 n).wf = true) (y1 : len1 * 8≤140737488351232) :
  Calls Try.prog 3 #[.int .i64 a0,.slice a1 len1 cap1] w fun e w'=>e = .returned (.bool true)∧Below w.heap.size w w':=by
 obtain ⟨l1,rfl,hr1,hm1,hw1,hc1⟩:=ReadsInt.ofRowC w1;obtain ⟨k,h⟩:=P a0 l1 w0 hm1 y1 hw1;refine (trivetlaw03_SplitShares.calls k a0 _ _ l1 true w (Kd.C_of_reads (d:=(0 : Int)) (h1:=fun _=>rfl) hr1) hc1 h).mono ?_;rintro e w' ⟨rfl,hd⟩;exact ⟨rfl,hd⟩

end Go.Proofs.Ytcpmfdagnchlbaa.P
