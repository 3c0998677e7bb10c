-- Written by a program of this session out of the translation of the seat: Lean functions and the proofs that the Go functions come to them.
import Derived.Test.YtghimjkoaldafaaPx0
import Derived.Test.YtghimjkoaldafaaPx7
import Derived.Test.YtghimjkoaldafaaPx9
import Derived.Test.YtghimjkoaldafaaPx10
import Derived.Test.YtghimjkoaldafaaPx14
import Derived.Test.YtghimjkoaldafaaPx15
namespace Go.Proofs.Ytghimjkoaldafaa.P
open Go.RowKit Go.Proofs.YtghimjkoaldafaaW.PrintWords Go.Proofs.YtghimjkoaldafaaW.PrintLast Go.Proofs.YtghimjkoaldafaaW.PrintMore
open Bool renaming true → aa, false → ab
open List renaming setIfInBounds_toArray → ac, set_cons_zero → ad, set_cons_succ → ae, map_toArray → au, length_drop → av, length_take → aw, map_cons → aI, map_nil → aN
open Go.World renaming block_lt_of_cell? → af
open Go.Proofs.YtghimjkoaldafaaW.PrintWords.Kd renaming V_mono → ag, N_alloc → ah, N_drewN → ai, N_drew → aj, V_reads' → an, C_alloc → ax, C_drewN → ay, R_below → aD, V_below → aE, fresh' → aG, C_drew → aH, N_below → aJ, V_slice → aT, V_elderB → aU, V_afterv → aV, V_far → aW, int → aZ, V_lower → ba, N_mono → bc, R_drew → bf, V_drew → bi, N_reads' → bk, R_lt → bl, N_lt → bm, N_elderB → bv, R_reads' → bw, V → bz, R_slice → bA, at_bool → bG, C_below → bH, R_ne → bJ, R → bK
open Go.Proofs.YtghimjkoaldafaaW.PrintLast renaming i64_w → ak, i32_w → al, any_of → am, pure_ → ap, take_ofW → be, norm_ → bh, one_of → bj, with_tabW → br, goes_ → bt, done_of → bC, one_ → bE, start_ → bI
open Go.Proofs.YtghimjkoaldafaaW.PrintWords renaming blk_cell → ao, below_size → ar, below_step → az, Aside0 → aA, add_block → bg, below_drew1 → bn, blk_grown → bp, blk_drew → bq, blk_alloc → bx, blk_below → bD, blk_frozen → bF
open Option renaming bind_eq_some_iff → aq, bind_some → aR
open Nat renaming le_of_eq → aC, lt_of_lt_of_le → aX, le_refl → bu
open Go.Proofs.Ytghimjkoaldafaa.P.trivetref01_Add renaming f → aK, calls → bB
open Go.Proofs.Ytghimjkoaldafaa.P renaming rd_T51 → aM
open Go.Proofs.Ytghimjkoaldafaa.P.trivetref01_Mul renaming f → aQ, calls → bd
open Go.Proofs.Ytghimjkoaldafaa.P.trivetref01_Neg renaming f → aY
open Go.Proofs.Ytghimjkoaldafaa.P.trivetref01_Of renaming calls → bb, f → bo
set_option maxHeartbeats 8000000
set_option maxRecDepth 100000
attribute [local go_sem] max2_int min2_int max_two min_two max_three min_three max_four min_four   -- for this text's walks alone
set_option linter.unusedVariables false
set_option linter.unusedSimpArgs false
mutual
def trivetref03_Shares.l0 : Nat→Int→List Int→Int→List Int→Bool→Option (List Int)
 | 0,_,_,_,_,_=>none
 | k + 1,x0,x1,x6,x719000,x719001=>if x6 < (x1.length : Int) then (if 0≤x6 then ((bo k (rd x1 x6)).bind fun h7=>((aK k x719000 x719001 h7.1 h7.2).bind fun d9=>(trivetref03_Shares.l0 k x0 x1 (wrap64 (x6 + 1)) d9.1 d9.2))) else (none)) else (trivetref03_Shares.l1 k x0 x1 ([] : List Int) ([] : List (S51)) x0 0 x719000 x719001)
def trivetref03_Shares.l1 : Nat→Int→List Int→List Int→List (S51)→Int→Int→List Int→Bool→Option (List Int)
 | 0,_,_,_,_,_,_,_,_=>none
 | k + 1,x0,x1,x7,x8,x9,x10,x719000,x719001=>if x10 < (x1.length : Int) then ((bo k x0).bind fun h8=>(if 0≤x10 then ((bo k (rd x1 x10)).bind fun e0=>((aQ k h8.1 h8.2 e0.1 e0.2).bind fun b0=>((trivetref01_Quotient.f k b0.1 b0.2 x719000 x719001 1).bind fun a1=>((trivetref01_To.f k a1.1 a1.2).bind fun b1=>(if x7.length < 17592186044416 then ((aQ k a1.1 a1.2 x719000 x719001).bind fun Y=>((aY k Y.1 Y.2).bind fun T=>((aK k b0.1 b0.2 T.1 T.2).bind fun Q=>(if x8.length < 4398046511104 then (trivetref03_Shares.l1 k x0 x1 (x7 ++ [b1.1]) (x8 ++ [(⟨Q.1,Q.2⟩ : S51)]) (wrap64 (x9 - b1.1)) (wrap64 (x10 + 1)) x719000 x719001) else (none))))) else (none)))))) else (none))) else (if 0≤(x1.length : Int) then (if ((x1.length : Int) : Int).toNat≤281474976710656 then (trivetref03_Shares.l2 k x1 x7 x8 x9 (List.replicate ((x1.length : Int) : Int).toNat false)) else (none)) else (none))
def trivetref03_Shares.l2 : Nat→List Int→List Int→List (S51)→Int→List Bool→Option (List Int)
 | 0,_,_,_,_,_=>none
 | k + 1,x1,x7,x8,x9,x15=>if x9 > 0 then (trivetref03_Shares.l3 k x1 x7 x8 x9 x15 (-1) 0) else (some x7)
def trivetref03_Shares.l3 : Nat→List Int→List Int→List (S51)→Int→List Bool→Int→Int→Option (List Int)
 | 0,_,_,_,_,_,_,_=>none
 | k + 1,x1,x7,x8,x9,x15,x16,x17=>if x17 < (x1.length : Int) then (if 0≤x17 then (if x17 < (x15.length : Int) then (if rdOf false x15 x17 = true then (trivetref03_Shares.l3 k x1 x7 x8 x9 x15 x16 (wrap64 (x17 + 1))) else (if x16 < 0 then (trivetref03_Shares.l3 k x1 x7 x8 x9 x15 x17 (wrap64 (x17 + 1))) else (if x17 < (x8.length : Int) then (if 0≤x16 then (if x16 < (x8.length : Int) then ((trivetref01_Cmp.f k ((aM x8 x17).f0) ((aM x8 x17).f1) ((aM x8 x16).f0) ((aM x8 x16).f1)).bind fun c0=>(if c0 > 0 then (trivetref03_Shares.l3 k x1 x7 x8 x9 x15 x17 (wrap64 (x17 + 1))) else (trivetref03_Shares.l3 k x1 x7 x8 x9 x15 x16 (wrap64 (x17 + 1))))) else (none)) else (none)) else (none)))) else (none)) else (none)) else (if x16 < 0 then (some x7) else (if 0≤x16 then (if x16 < (x15.length : Int) then (if x16 < (x7.length : Int) then (trivetref03_Shares.l2 k x1 (x7.set (x16 : Int).toNat (wrap64 ((rd x7 x16) + 1))) x8 (wrap64 (x9 - 1)) (x15.set (x16 : Int).toNat true)) else (none)) else (none)) else (none)))
end
def trivetref03_Shares.f (k : Nat) (a0 : Int) (l1 : List Int) : Option (List Int):=trivetref03_Shares.l0 k a0 l1 0 ([] : List Int) false
def trivetref03_Shares.T5 : Bool × List (List Nat × List Nat):=(true,[([],[]),([],[]),([],[]),([1,2],[1,2]),([3],[3]),([4],[4]),([0,5,5],[0,5]),([6,6,0,1,2,3,4,5,6],[6])])
def trivetref03_Shares.B5 : List Nat:=[0,0,0,6,14,30,63,127]
theorem trivetref03_Shares.tab5 : rtab .any (opsOf Try.f16 5) = trivetref03_Shares.T5:=by kernel_rfl
theorem trivetref03_Shares.bits5 : waitsOk trivetref03_Shares.T5.2 trivetref03_Shares.B5 = true:=by kernel_rfl
def trivetref03_Shares.T12 : Bool × List (List Nat × List Nat):=(true,[([],[]),([0],[0]),([],[]),([],[]),([2,3],[2,3]),([4],[4]),([5,1],[5]),([1,6,6],[1,6]),([],[]),([8,7,7,0,1,2,3,4,5,6,7,8],[7,8])])
def trivetref03_Shares.B12 : List Nat:=[0,1,0,0,12,28,63,127,0,511]
theorem trivetref03_Shares.tab12 : rtab .any (opsOf Try.f16 12) = trivetref03_Shares.T12:=by kernel_rfl
theorem trivetref03_Shares.bits12 : waitsOk trivetref03_Shares.T12.2 trivetref03_Shares.B12 = true:=by kernel_rfl
def trivetref03_Shares.T16 : Bool × List (List Nat × List Nat):=(true,[([],[]),([],[]),([],[]),([],[]),([2,3],[2,3]),([4,4],[4]),([1,5,5],[1,5]),([6],[6]),([0,7,6],[0,7]),([8,8,0,1,2,3,4,5,6,7,8],[0,8])])
def trivetref03_Shares.B16 : List Nat:=[0,0,0,0,12,28,62,126,255,511]
theorem trivetref03_Shares.tab16 : rtab .any (opsOf Try.f16 16) = trivetref03_Shares.T16:=by kernel_rfl
theorem trivetref03_Shares.bits16 : waitsOk trivetref03_Shares.T16.2 trivetref03_Shares.B16 = true:=by kernel_rfl
def trivetref03_Shares.T24 : Bool × List (List Nat × List Nat):=(true,[([],[]),([],[]),([0,1],[0,1]),([2],[2]),([3],[3]),([4],[4]),([5],[5]),([6,5],[5,6]),([7,5,5],[5,7]),([8],[8]),([8],[8]),([9,10,8],[8,9,10]),([11,8],[8,11]),([8],[8]),([8],[8]),([13,14,8],[8,13,14]),([15,8],[8,15]),([12,16,8,8],[8,12,16]),([17,8],[8,17]),([8,18,5],[5,8,18]),([5,19],[5,19])])
def trivetref03_Shares.B24 : List Nat:=[0,0,3,7,15,31,63,127,255,511,511,2047,4095,511,511,25087,57855,131071,262143,524287,1048575]
theorem trivetref03_Shares.tab24 : rtab .any (opsOf Try.f16 24) = trivetref03_Shares.T24:=by kernel_rfl
theorem trivetref03_Shares.bits24 : waitsOk trivetref03_Shares.T24.2 trivetref03_Shares.B24 = true:=by kernel_rfl
theorem trivetref03_Shares.calls (k : Nat) (a0 : Int) (A1 : Option Addr) (c1 : Nat) (l1 : List Int) (r : List Int) (w : World) (hr1 : Kd.C (aZ .i64) w A1 l1.length l1) (hc1 : l1.length≤c1) (h : trivetref03_Shares.f k a0 l1 = some r) :
  Calls Try.prog 16 #[.int .i64 a0,.slice A1 l1.length c1] w fun e w'=>∃ v0_ : Value,e = .returned (v0_)∧bK (aZ .i64) 2 w' w.heap.size (fun _=>True) v0_ r∧Below w.heap.size w w':=by
 have hu51:=Try.underlying51;have HR1:=ka hr1;have w5:=ka hc1;clear hr1 hc1;have HB:=ka (Below.refl w.heap.size w);have H : (trivetref03_Shares.l0 k a0 l1 0 ([] : List Int) false) = some r:=h;clear h;have H':=ka H;clear H;go_enter Try.func16,Try.ntmps16
 go_wp2_with (first|((with_reducible refine gate_dst (N:=5) rfl ?_);refine kx (N:=5) (cs:=#[.slice none 0 0,.bool false]) (t:=51) ?_;intro u hg w3 hbox hb;have e1:=ka (az (kw HB.out) hb);have e2:=ka (hbox);have d8:=ka ((by rw [hg];exact (ar (kw HB.out)) : w.heap.size≤u));have e3:=d8;clear HB;have HB:=e1;have m:=e2;have r6:=d8;have b2:=e3;clear e1 e2 d8 e3;clear hb hbox hg;have i4:=blkAll2 m.out))
 (try simp only [Act.put,ac,ad,ae]);go_loopg [6] k (fun kq v6 w'=>∃ (x6_1 : Int) (A : List Int) (z : Bool) (W : Value),v6 = .int .i64 x6_1∧aA (trivetref03_Shares.l0 kq a0 l1 x6_1 A z = some r)∧aA (kq≤k)∧aA (bz (aZ .u64) 60 w' w.heap.size (fun l=>l≠u) W A)∧aA (w'.heap[u]? = some (.cells #[W,.bool z] 51 (0,0)))∧aA (Below w.heap.size w w'))
 case atStart=>exact ⟨(0),(([] : List Int)),(false),(.slice none 0 0),(by first|rfl|(simp;done)|(simp [*];done)),H',⟨bu _⟩,⟨Kd.V_nil _ _ _ _ _⟩,⟨by (with_reducible repeat (first|apply kb1|apply kb2|apply kb3|apply blkPut2_1|apply blkPut2_0));exact m.out⟩,⟨by repeat (first|(with_reducible first|exact HB.out|apply kc1|apply kc2|apply kc3|refine kc4 ?_ b2.out)|exact HB.out)⟩⟩
 case round=>
  clear H';try clear c1
  try clear i4
  obtain ⟨x6_1,A,z,W,rfl,HA,HK1,d,m,HB⟩:=hrel;cases gk with
  | zero=>exact absurd HA.out (by simp [trivetref03_Shares.l0])
  | succ k1=>
   have H:=HA.out;clear HA;simp only [trivetref03_Shares.l0] at H
   by_cases c5 : x6_1 < (l1.length : Int)
   ·rw [if_pos c5] at H
    have c5b0 : decide (x6_1 < (l1.length : Int)) = true:=decide_eq_true c5;clear c5;by_cases c6 : 0≤x6_1
    ·rw [if_pos c6] at H
     have c6b0 : decide (0≤x6_1) = true:=decide_eq_true c6;clear c6;replace H:=aq.mp H;obtain ⟨⟨g1,g2⟩,n7,H⟩:=H;replace H : ((aK k1 A z g1 g2).bind fun d9=>(trivetref03_Shares.l0 k1 a0 l1 (wrap64 (x6_1 + 1)) d9.1 d9.2)) = some r:=H;have A7:=ka n7;clear n7;replace H:=aq.mp H;obtain ⟨⟨f4,g3⟩,n8,H⟩:=H;replace H : (trivetref03_Shares.l0 k1 a0 l1 (wrap64 (x6_1 + 1)) f4 g3) = some r:=H;have A8:=ka n8;clear n8;have H':=ka H;clear H;try go_wp2
     replace d:=ka (bi d.out);replace m:=ka (bq m.out);replace HB:=ka (bn HB.out);have p719 : 0≤(x6_1 : Int):=of_decide_eq_true (by first|(with_reducible assumption)|assumption);have q719 : x6_1 < (l1.length : Int):=of_decide_eq_true (by first|(with_reducible assumption)|assumption);obtain ⟨ad719,e719,hx719_0⟩:=Kd.at_int HR1.out x6_1 p719 q719;have hw719_0:=hx719_0;cases e719
     replace hx719_0:=(HB.out.cell (af w _ hx719_0)).trans hx719_0;replace p719:=eq_true p719;replace q719:=eq_true q719;refine bI (n:=8) (S:=fun w'=>w'.cell? ⟨u,0,none⟩ = some (W)∧w'.cell? ⟨u,1,none⟩ = some (.bool z)∧w'.cell? (ad719.add (x6_1).toNat) = some (.int .i64 (rd l1 x6_1))) (ds:=[7]) #[ab,ab,ab,ab,ab,ab,ab,ab] (by kernel_rfl) rfl rfl ⟨(ao m.out 0).trans rfl,(ao m.out 1).trans rfl,((HB.out.cell (af w _ hw719_0)).trans hw719_0)⟩ (fun hHeld=>?_);refine br trivetref03_Shares.tab5 trivetref03_Shares.bits5 (fun HT_ HW_=>?_);generalize wr.drew = w9 at d m HB hx719_0 hHeld ⊢;refine ap (i:=1) (N:=some 26) (v:=?_) (a':=?_) #[ab,aa,ab,ab,ab,ab,ab,ab] rfl rfl (am HT_.out (by kernel_rfl)) (fun _ _ _ h=>h) (Or.inl ⟨by rfl,?_⟩) ?_ ?_;rotate_left
     ·intro w';go_simp
      with_reducible rfl
     rotate_left
     ·simp only [Act.put,ac,ad,ae,ak,al]
      rfl
     refine ap (i:=2) (N:=some 27) (v:=?_) (a':=?_) #[ab,aa,aa,ab,ab,ab,ab,ab] rfl rfl (am HT_.out (by kernel_rfl)) (fun _ _ _ h=>h) (Or.inl ⟨by rfl,?_⟩) ?_ ?_;rotate_left
     ·intro w';go_simp
      with_reducible rfl
     rotate_left
     ·simp only [Act.put,ac,ad,ae,ak,al]
      rfl
     refine ap (i:=3) (N:=some 28) (v:=?_) (a':=?_) #[ab,aa,aa,aa,ab,ab,ab,ab] rfl rfl (am HT_.out (by kernel_rfl)) (fun _ _ _ h=>h) (Or.inl ⟨by rfl,?_⟩) ?_ ?_;rotate_left
     ·intro w';go_simp
      with_reducible rfl
     rotate_left
     ·simp only [Act.put,ac,ad,ae,ak,al]
      rfl
     refine take_ (i:=0) (N:=some 25) (v:=?_) (a':=?_) #[aa,aa,aa,aa,ab,ab,ab,ab] rfl rfl (be HT_.out HW_.out (by kernel_rfl)) (fun _ _ _ h=>h) (Or.inl ⟨by rfl,?_⟩) hHeld ?_ ?_;rotate_left
     ·rintro w' ⟨s0,s1,s2⟩;go_simp
      with_reducible rfl
     rotate_left
     ·simp only [Act.put,ac,ad,ae,ak,al]
      rfl
     refine take_ (i:=4) (N:=some 29) (v:=?_) (a':=?_) #[aa,aa,aa,aa,aa,ab,ab,ab] rfl rfl (be HT_.out HW_.out (by kernel_rfl)) (fun _ _ _ h=>h) (Or.inl ⟨by rfl,?_⟩) hHeld ?_ ?_;rotate_left
     ·rintro w' ⟨s0,s1,s2⟩;go_simp
      with_reducible rfl
     rotate_left
     ·simp only [Act.put,ac,ad,ae,ak,al]
      rfl
     refine bE (i:=5) (N:=some 30) #[aa,aa,aa,aa,aa,aa,ab,ab] rfl rfl (bj HT_.out (by kernel_rfl)) (by decide) (fun K hK=>?_);refine bt Try.func24 (by kernel_rfl) rfl #[.int .i64 (rd l1 x6_1)] (by rfl) rfl rfl (by (try simp only [au,aI,aN]);first|done|rfl|(simp only [av,aw];rfl)) ?_;with_reducible refine (bb k1 (rd l1 x6_1) g1 g2 _ A7.out).mono ?_
     rintro e w6 ⟨t3,rfl,ho0,hb⟩;refine ⟨_,rfl,?_⟩;replace d:=kvb d hb;have e4:=ka (ba (ag (ok':=fun l=>l≠u) ho0 (fun l F=>(kf m F))) (ar (kw HB.out)));replace m:=kbb m hb;replace HB:=ka (az (kw HB.out) hb);(try clear hb ho0);obtain ⟨i5,i6,i7⟩:=aT d.out;(first|subst i7|(injection i7 with f1_ f2_ f3_;have f4_:=f1_.symm;have f5_:=f3_.symm;clear f1_ f2_ f3_;subst f4_;subst f5_));obtain ⟨o5,o6,i8⟩:=aT e4.out;(first|subst i8|(injection i8 with f1_ f2_ f3_;have f4_:=f1_.symm;have f5_:=f3_.symm;clear f1_ f2_ f3_;subst f4_;subst f5_));refine hK.out _ _ ⟨(ao m.out 0).trans rfl,(ao m.out 1).trans rfl,((HB.out.cell (af w _ hw719_0)).trans hw719_0)⟩ (fun hHeld=>?_);clear hK K;refine bh (a':=?_) ?_ ?_;rotate_left
     ·show Act.put _ (some 30) _ = _
      simp only [Act.put,ac,ad,ae,ak,al]
      rfl
     refine bE (i:=6) (N:=some 31) #[aa,aa,aa,aa,aa,aa,aa,ab] rfl rfl (bj HT_.out (by kernel_rfl)) (by decide) (fun K hK=>?_);refine bt Try.func23 (by kernel_rfl) rfl #[.agg #[.slice i5 A.length i6,.bool z],.agg #[.slice o5 g1.length o6,.bool g2]] (by rfl) rfl rfl (by (try simp only [au,aI,aN]);first|done|rfl|(simp only [av,aw];rfl)) ?_;with_reducible refine (bB k1 _ _ A z _ _ g1 g2 f4 g3 _ ?side1 ?side2 ?side3 ?side4 A8.out).mono ?_
     (case side1=>repeat (first|exact (an d.out).2.2|with_reducible first|refine ax ?_ _|refine ay ?_ _|refine aH ?_));(case side2=>exact (an d.out).2.1);(case side3=>repeat (first|exact (an e4.out).2.2|with_reducible first|refine ax ?_ _|refine ay ?_ _|refine aH ?_));(case side4=>exact (an e4.out).2.1);rintro e n9 ⟨t4,rfl,ho0,hb⟩;refine ⟨_,rfl,?_⟩;replace d:=kvb d hb;replace e4:=kvb e4 hb;have h9:=ka (ba (ag (ok':=fun l=>l≠u) ho0 (fun l F=>(kf m F))) (ar (kw HB.out)));replace m:=kbb m hb;replace HB:=ka (az (kw HB.out) hb);(try clear hb ho0);obtain ⟨i9,j0,j1⟩:=aT h9.out;(first|subst j1|(injection j1 with f1_ f2_ f3_;have f4_:=f1_.symm;have f5_:=f3_.symm;clear f1_ f2_ f3_;subst f4_;subst f5_));refine hK.out _ _ ⟨(ao m.out 0).trans rfl,(ao m.out 1).trans rfl,((HB.out.cell (af w _ hw719_0)).trans hw719_0)⟩ (fun hHeld=>?_);clear hK K;refine bh (a':=?_) ?_ ?_;rotate_left
     ·show Act.put _ (some 31) _ = _
      simp only [Act.put,ac,ad,ae,ak,al]
      rfl
     refine last_ (i:=7) (N:=none) #[aa,aa,aa,aa,aa,aa,aa,aa] rfl rfl (bj HT_.out (by kernel_rfl)) (by decide) (fun K hK=>?_);have hs15 : n9.cell? ⟨u,0,none⟩ = some (.slice i5 A.length i6):=(ao m.out 0).trans rfl;have hfs15:=bF m.out 0;have hs16 : n9.cell? ⟨u,1,none⟩ = some (.bool z):=(ao m.out 1).trans rfl;have hfs16:=bF m.out 1;refine skip_ (w1:=?_) (by rfl) rfl ?_ ?_;rotate_left
     ·go_simp
      rfl
     refine hK.out _ _ ?_;clear hK K;refine done_ (bC HT_.out (by kernel_rfl)) ?_;try go_wp2
     go_roundg k1
     case measure=>have:=HK1.out;omega
     case rel=>exact ⟨(wrap64 (x6_1 + 1)),(f4),(g3),(.slice i9 f4.length j0),(by first|rfl|(simp;done)|(simp [*];done)),H',⟨by have:=HK1.out;omega⟩,⟨kv (ag (aW (p:=⟨u,1,none⟩) (aW (p:=⟨u,0,none⟩) (ag h9.out (fun l hk=>(⟨hk,hk⟩ : _∧l≠u))) (fun _ hk=>hk.2) (.slice i9 f4.length j0)) (fun _ hk=>hk.2) (.bool g3)) (fun _ hk=>hk.1))⟩,⟨by (with_reducible repeat (first|apply kb1|apply kb2|apply kb3|apply blkPut2_1|apply blkPut2_0));exact m.out⟩,⟨by repeat (first|(with_reducible first|exact HB.out|apply kc1|apply kc2|apply kc3|refine kc4 ?_ b2.out)|exact HB.out)⟩⟩
    ·rw [if_neg c6] at H
     exact absurd H (by simp)
   ·rw [if_neg c5] at H
    have c5b0 : decide (x6_1 < (l1.length : Int)) = false:=decide_eq_false c5;clear c5;have H':=ka H;clear H;go_wp2
    (try simp only [Act.put,ac,ad,ae]);go_loopg [7,8,9,10] k1 (fun kq v7 v8 v9 q5 w'=>∃ (x7_2 : List Int) (x8_2 : List (S51)) (x9_2 : Int) (x10_2 : Int),v9 = .int .i64 x9_2∧q5 = .int .i64 x10_2∧aA (trivetref03_Shares.l1 kq a0 l1 x7_2 x8_2 x9_2 x10_2 A z = some r)∧aA (kq≤k1)∧aA (bK (aZ .i64) 2 w' w.heap.size (fun _=>True) v7 x7_2)∧aA (Kd.N k51 51 w' w.heap.size (fun l=>some l≠(v7 : Value).ownBlock∧l≠u) v8 x8_2)∧aA (bz (aZ .u64) 60 w' w.heap.size (fun l=>some l≠(v7 : Value).ownBlock∧some l≠(v8 : Value).ownBlock∧l≠u) W A)∧aA (w'.heap[u]? = some (.cells #[W,.bool z] 51 (0,0)))∧aA (Below w.heap.size w w'))
    case atStart=>exact ⟨(([] : List Int)),(([] : List (S51))),(a0),(0),(by first|rfl|(simp;done)|(simp [*];done)),(by first|rfl|(simp;done)|(simp [*];done)),H',⟨bu _⟩,⟨by first|exact Kd.R_nil _ _ _ _ _|exact Kd.N_nil _ _ _ _ _|exact Kd.V_nil _ _ _ _ _|exact Kd.Q_nil _ _ _ _ _|exact Kd.S_nil _ _ _ _ _⟩,⟨by first|exact Kd.S_nil _ _ _ _ _|exact Kd.N_nil _ _ _ _ _|exact Kd.V_nil _ _ _ _ _|exact Kd.Q_nil _ _ _ _ _|exact Kd.R_nil _ _ _ _ _⟩,⟨kv (ag d.out (fun _ hk=>⟨(by simp [Value.ownBlock]),⟨(by simp [Value.ownBlock]),hk⟩⟩))⟩,⟨by (with_reducible repeat (first|apply kb1|apply kb2|apply kb3));exact m.out⟩,⟨by repeat (first|(with_reducible first|exact HB.out|apply kc1|apply kc2|apply kc3|refine kc4 ?_ b2.out)|exact HB.out)⟩⟩
    case round=>
     clear H';try clear c1
     try clear c5
     try clear c5b0
     try clear i4
     obtain ⟨x7_2,x8_2,x9_2,x10_2,rfl,rfl,HA,HK2,x,s,d,m,HB⟩:=hrel;cases gk with
     | zero=>exact absurd HA.out (by simp [trivetref03_Shares.l1])
     | succ k2=>
      have H:=HA.out;clear HA;simp only [trivetref03_Shares.l1] at H
      by_cases c17 : x10_2 < (l1.length : Int)
      ·rw [if_pos c17] at H
       have c17b0 : decide (x10_2 < (l1.length : Int)) = true:=decide_eq_true c17;clear c17;replace H:=aq.mp H;obtain ⟨⟨a7,b5⟩,j2,H⟩:=H;replace H : (if 0≤x10_2 then ((bo k2 (rd l1 x10_2)).bind fun e0=>((aQ k2 a7 b5 e0.1 e0.2).bind fun b0=>((trivetref01_Quotient.f k2 b0.1 b0.2 A z 1).bind fun a1=>((trivetref01_To.f k2 a1.1 a1.2).bind fun b1=>(if x7_2.length < 17592186044416 then ((aQ k2 a1.1 a1.2 A z).bind fun Y=>((aY k2 Y.1 Y.2).bind fun T=>((aK k2 b0.1 b0.2 T.1 T.2).bind fun Q=>(if x8_2.length < 4398046511104 then (trivetref03_Shares.l1 k2 a0 l1 (x7_2 ++ [b1.1]) (x8_2 ++ [(⟨Q.1,Q.2⟩ : S51)]) (wrap64 (x9_2 - b1.1)) (wrap64 (x10_2 + 1)) A z) else (none))))) else (none)))))) else (none)) = some r:=H;have o0:=ka j2;clear j2;by_cases c19 : 0≤x10_2
       ·rw [if_pos c19] at H
        have c19b0 : decide (0≤x10_2) = true:=decide_eq_true c19;clear c19;replace H:=aq.mp H;obtain ⟨⟨a8,b6⟩,j3,H⟩:=H;replace H : ((aQ k2 a7 b5 a8 b6).bind fun b0=>((trivetref01_Quotient.f k2 b0.1 b0.2 A z 1).bind fun a1=>((trivetref01_To.f k2 a1.1 a1.2).bind fun b1=>(if x7_2.length < 17592186044416 then ((aQ k2 a1.1 a1.2 A z).bind fun Y=>((aY k2 Y.1 Y.2).bind fun T=>((aK k2 b0.1 b0.2 T.1 T.2).bind fun Q=>(if x8_2.length < 4398046511104 then (trivetref03_Shares.l1 k2 a0 l1 (x7_2 ++ [b1.1]) (x8_2 ++ [(⟨Q.1,Q.2⟩ : S51)]) (wrap64 (x9_2 - b1.1)) (wrap64 (x10_2 + 1)) A z) else (none))))) else (none))))) = some r:=H;have j4:=ka j3;clear j3;replace H:=aq.mp H;obtain ⟨⟨L,O⟩,j5,H⟩:=H;replace H : ((trivetref01_Quotient.f k2 L O A z 1).bind fun a1=>((trivetref01_To.f k2 a1.1 a1.2).bind fun b1=>(if x7_2.length < 17592186044416 then ((aQ k2 a1.1 a1.2 A z).bind fun Y=>((aY k2 Y.1 Y.2).bind fun T=>((aK k2 L O T.1 T.2).bind fun Q=>(if x8_2.length < 4398046511104 then (trivetref03_Shares.l1 k2 a0 l1 (x7_2 ++ [b1.1]) (x8_2 ++ [(⟨Q.1,Q.2⟩ : S51)]) (wrap64 (x9_2 - b1.1)) (wrap64 (x10_2 + 1)) A z) else (none))))) else (none)))) = some r:=H;have i0:=ka j5;clear j5;replace H:=aq.mp H;obtain ⟨⟨a6,a9⟩,j6,H⟩:=H;replace H : ((trivetref01_To.f k2 a6 a9).bind fun b1=>(if x7_2.length < 17592186044416 then ((aQ k2 a6 a9 A z).bind fun Y=>((aY k2 Y.1 Y.2).bind fun T=>((aK k2 L O T.1 T.2).bind fun Q=>(if x8_2.length < 4398046511104 then (trivetref03_Shares.l1 k2 a0 l1 (x7_2 ++ [b1.1]) (x8_2 ++ [(⟨Q.1,Q.2⟩ : S51)]) (wrap64 (x9_2 - b1.1)) (wrap64 (x10_2 + 1)) A z) else (none))))) else (none))) = some r:=H;have q6:=ka j6;clear j6;replace H:=aq.mp H;obtain ⟨⟨c3,o9⟩,j7,H⟩:=H;replace H : (if x7_2.length < 17592186044416 then ((aQ k2 a6 a9 A z).bind fun Y=>((aY k2 Y.1 Y.2).bind fun T=>((aK k2 L O T.1 T.2).bind fun Q=>(if x8_2.length < 4398046511104 then (trivetref03_Shares.l1 k2 a0 l1 (x7_2 ++ [c3]) (x8_2 ++ [(⟨Q.1,Q.2⟩ : S51)]) (wrap64 (x9_2 - c3)) (wrap64 (x10_2 + 1)) A z) else (none))))) else (none)) = some r:=H;have q8:=ka j7;clear j7;by_cases c24 : x7_2.length < 17592186044416
        ·rw [if_pos c24] at H
         have LMc24:=ka c24;clear c24;obtain ⟨y749,hy749⟩ : ∃ y_ : List Int,y_ = (x7_2 ++ [c3]):=⟨_,rfl⟩
         replace H : ((aQ k2 a6 a9 A z).bind fun Y=>((aY k2 Y.1 Y.2).bind fun T=>((aK k2 L O T.1 T.2).bind fun Q=>(if x8_2.length < 4398046511104 then (trivetref03_Shares.l1 k2 a0 l1 y749 (x8_2 ++ [(⟨Q.1,Q.2⟩ : S51)]) (wrap64 (x9_2 - c3)) (wrap64 (x10_2 + 1)) A z) else (none))))) = some r:=by first|(rw [hy749];with_reducible exact H)|(have H2_:=(aR _ _).symm.trans H;rw [hy749];with_reducible exact H2_)|(have H2_:=(aR _ _).symm.trans H;with_reducible exact H2_)|with_reducible exact H|(rw [hy749];exact H)|exact H
         have Ny749:=ka hy749;clear hy749;replace H:=aq.mp H;obtain ⟨⟨g4,g5⟩,j8,H⟩:=H;replace H : ((aY k2 g4 g5).bind fun T=>((aK k2 L O T.1 T.2).bind fun Q=>(if x8_2.length < 4398046511104 then (trivetref03_Shares.l1 k2 a0 l1 y749 (x8_2 ++ [(⟨Q.1,Q.2⟩ : S51)]) (wrap64 (x9_2 - c3)) (wrap64 (x10_2 + 1)) A z) else (none)))) = some r:=H;have q9:=ka j8;clear j8;replace H:=aq.mp H;obtain ⟨⟨g6,g7⟩,j9,H⟩:=H;replace H : ((aK k2 L O g6 g7).bind fun Q=>(if x8_2.length < 4398046511104 then (trivetref03_Shares.l1 k2 a0 l1 y749 (x8_2 ++ [(⟨Q.1,Q.2⟩ : S51)]) (wrap64 (x9_2 - c3)) (wrap64 (x10_2 + 1)) A z) else (none))) = some r:=H;have r0:=ka j9;clear j9;replace H:=aq.mp H;obtain ⟨⟨e6,e7⟩,k0,H⟩:=H;replace H : (if x8_2.length < 4398046511104 then (trivetref03_Shares.l1 k2 a0 l1 y749 (x8_2 ++ [(⟨e6,e7⟩ : S51)]) (wrap64 (x9_2 - c3)) (wrap64 (x10_2 + 1)) A z) else (none)) = some r:=H;have r1:=ka k0;clear k0;by_cases c28 : x8_2.length < 4398046511104
         ·rw [if_pos c28] at H
          have LMc28:=ka c28;clear c28;obtain ⟨y764,hy764⟩ : ∃ y_ : List (S51),y_ = (x8_2 ++ [(⟨e6,e7⟩ : S51)]):=⟨_,rfl⟩
          replace H : (trivetref03_Shares.l1 k2 a0 l1 y749 y764 (wrap64 (x9_2 - c3)) (wrap64 (x10_2 + 1)) A z) = some r:=by first|(rw [hy764];with_reducible exact H)|(have H2_:=(aR _ _).symm.trans H;rw [hy764];with_reducible exact H2_)|(have H2_:=(aR _ _).symm.trans H;with_reducible exact H2_)|with_reducible exact H|(rw [hy764];exact H)|exact H
          have Ny764:=ka hy764;clear hy764;have H':=ka H;clear H;try go_wp2
          replace x:=ka (bf x.out);replace s:=ka (aj s.out);replace d:=ka (bi d.out);replace m:=ka (bq m.out);replace HB:=ka (bn HB.out);have p732 : 0≤(x10_2 : Int):=of_decide_eq_true (by first|(with_reducible assumption)|assumption);have q732 : x10_2 < (l1.length : Int):=of_decide_eq_true (by first|(with_reducible assumption)|assumption);obtain ⟨ad732,e732,hx732_0⟩:=Kd.at_int HR1.out x10_2 p732 q732;have hw732_0:=hx732_0;cases e732
          replace hx732_0:=(HB.out.cell (af w _ hx732_0)).trans hx732_0;replace p732:=eq_true p732;replace q732:=eq_true q732;refine bI (n:=10) (S:=fun w'=>w'.cell? (ad732.add (x10_2).toNat) = some (.int .i64 (rd l1 x10_2))) (ds:=[]) #[ab,ab,ab,ab,ab,ab,ab,ab,ab,ab] (by kernel_rfl) rfl rfl (((HB.out.cell (af w _ hw732_0)).trans hw732_0)) (fun hHeld=>?_);refine br trivetref03_Shares.tab12 trivetref03_Shares.bits12 (fun HT_ HW_=>?_);generalize wr.drew = w7 at x s d m HB hx732_0 hHeld ⊢;refine ap (i:=0) (N:=some 39) (v:=?_) (a':=?_) #[aa,ab,ab,ab,ab,ab,ab,ab,ab,ab] rfl rfl (am HT_.out (by kernel_rfl)) (fun _ _ _ h=>h) (Or.inl ⟨by rfl,?_⟩) ?_ ?_;rotate_left
          ·intro w';go_simp
           with_reducible rfl
          rotate_left
          ·simp only [Act.put,ac,ad,ae,ak,al]
           rfl
          refine ap (i:=2) (N:=some 41) (v:=?_) (a':=?_) #[aa,ab,aa,ab,ab,ab,ab,ab,ab,ab] rfl rfl (am HT_.out (by kernel_rfl)) (fun _ _ _ h=>h) (Or.inl ⟨by rfl,?_⟩) ?_ ?_;rotate_left
          ·intro w';go_simp
           with_reducible rfl
          rotate_left
          ·simp only [Act.put,ac,ad,ae,ak,al]
           rfl
          refine ap (i:=3) (N:=some 42) (v:=?_) (a':=?_) #[aa,ab,aa,aa,ab,ab,ab,ab,ab,ab] rfl rfl (am HT_.out (by kernel_rfl)) (fun _ _ _ h=>h) (Or.inl ⟨by rfl,?_⟩) ?_ ?_;rotate_left
          ·intro w';go_simp
           with_reducible rfl
          rotate_left
          ·simp only [Act.put,ac,ad,ae,ak,al]
           rfl
          refine ap (i:=4) (N:=some 43) (v:=?_) (a':=?_) #[aa,ab,aa,aa,aa,ab,ab,ab,ab,ab] rfl rfl (am HT_.out (by kernel_rfl)) (fun _ _ _ h=>h) (Or.inl ⟨by rfl,?_⟩) ?_ ?_;rotate_left
          ·intro w';go_simp
           with_reducible rfl
          rotate_left
          ·simp only [Act.put,ac,ad,ae,ak,al]
           rfl
          refine take_ (i:=5) (N:=some 44) (v:=?_) (a':=?_) #[aa,ab,aa,aa,aa,aa,ab,ab,ab,ab] rfl rfl (be HT_.out HW_.out (by kernel_rfl)) (fun _ _ _ h=>h) (Or.inl ⟨by rfl,?_⟩) hHeld ?_ ?_;rotate_left
          ·intro w' s0;go_simp
           with_reducible rfl
          rotate_left
          ·simp only [Act.put,ac,ad,ae,ak,al]
           rfl
          refine join_ (σ:=Value × Value × Value × Nat) 1 #[aa,aa,aa,aa,aa,aa,aa,aa,aa,ab] (fun s_=>[(40,.agg #[s_.1,.bool b5]),(45,.agg #[s_.2.1,.bool b6]),(46,.agg #[s_.2.2.1,.bool O]),(11,.pointer (some ⟨s_.2.2.2,0,none⟩))]) (fun s_ w'=>(w'.cell? (ad732.add (x10_2).toNat) = some (.int .i64 (rd l1 x10_2)))∧(bz (aZ .u64) 60 w' w.heap.size (fun l=>some l≠(u7 : Value).ownBlock∧some l≠(u8 : Value).ownBlock∧l≠u∧l≠s_.2.2.2) s_.1 a7)∧(bz (aZ .u64) 60 w' w.heap.size (fun l=>some l≠(u7 : Value).ownBlock∧some l≠(u8 : Value).ownBlock∧l≠u∧l≠s_.2.2.2) s_.2.1 a8)∧(bz (aZ .u64) 60 w' w.heap.size (fun l=>some l≠(u7 : Value).ownBlock∧some l≠(u8 : Value).ownBlock∧l≠u∧l≠s_.2.2.2) s_.2.2.1 L)∧(bK (aZ .i64) 2 w' w.heap.size (fun _=>True) u7 x7_2)∧(bz (aZ .u64) 60 w' w.heap.size (fun l=>some l≠(u7 : Value).ownBlock∧some l≠(u8 : Value).ownBlock∧l≠u∧l≠s_.2.2.2) W A)∧(Kd.N k51 51 w' w.heap.size (fun l=>some l≠(u7 : Value).ownBlock∧l≠u∧l≠s_.2.2.2) u8 x8_2)∧(w'.heap[u]? = some (.cells #[W,.bool z] 51 (0,0)))∧(w'.heap[s_.2.2.2]? = some (.cells #[.slice none 0 0,.bool false] 51 (0,0)))∧(w.heap.size≤s_.2.2.2)∧(w.heap.size≤s_.2.2.2)∧(u≠s_.2.2.2)∧(s_.2.2.2≠u)∧(Below w.heap.size w w')) ?_ ?_;rotate_left
          ·intro hCont;refine two_ (i:=1) (j:=8) (Ni:=some 40) (Nj:=some 11) #[aa,aa,aa,aa,aa,aa,ab,ab,ab,ab] #[aa,ab,aa,aa,aa,aa,ab,ab,aa,ab] rfl rfl rfl rfl (two_of HT_.out (by kernel_rfl)) (by decide) (by decide) (fun K hK=>?_) (fun K hK=>?_)
           ·skip
            refine bt Try.func24 (by kernel_rfl) rfl #[.int .i64 a0] (by rfl) rfl rfl (by (try simp only [au,aI,aN]);first|done|rfl|(simp only [av,aw];rfl)) ?_;with_reducible refine (bb k2 a0 a7 b5 _ o0.out).mono ?_
            rintro e r2 ⟨g8,rfl,ho0,hb⟩;refine ⟨_,rfl,?_⟩;replace d:=kvb d hb;have B:=ka (ba (ag (ok':=fun l=>some l≠(u7 : Value).ownBlock∧some l≠(u8 : Value).ownBlock∧l≠u) ho0 (fun l F=>⟨(aG (bl (kr x.out)) l F),(aG (bm (by (with_reducible repeat (first|apply ah|apply ai|apply aj));exact s.out)) l F),(kf m F)⟩)) (ar (kw HB.out)));replace x:=ka (aD (kr x.out) hb);replace s:=ka (aJ (by (with_reducible repeat (first|apply ah|apply ai|apply aj));exact s.out) hb);replace m:=kbb m hb;replace HB:=ka (az (kw HB.out) hb);(try clear hb ho0);refine hK.out _ _ (((HB.out.cell (af w _ hw732_0)).trans hw732_0)) (fun hHeld=>?_);clear hK K;refine bh (a':=?_) ?_ ?_;rotate_left
            ·show Act.put _ (some 40) _ = _
             simp only [Act.put,ac,ad,ae,ak,al]
             rfl
            refine two_ (i:=6) (j:=8) (Ni:=some 45) (Nj:=some 11) #[aa,aa,aa,aa,aa,aa,aa,ab,ab,ab] #[aa,aa,aa,aa,aa,aa,ab,ab,aa,ab] rfl rfl rfl rfl (two_of HT_.out (by kernel_rfl)) (by decide) (by decide) (fun K hK=>?_) (fun K hK=>?_)
            ·skip
             refine bt Try.func24 (by kernel_rfl) rfl #[.int .i64 (rd l1 x10_2)] (by rfl) rfl rfl (by (try simp only [au,aI,aN]);first|done|rfl|(simp only [av,aw];rfl)) ?_;with_reducible refine (bb k2 (rd l1 x10_2) a8 b6 _ j4.out).mono ?_
             rintro e o1 ⟨f5,rfl,ho0,hb⟩;refine ⟨_,rfl,?_⟩;replace d:=kvb d hb;replace B:=kvb B hb;have E:=ka (ba (ag (ok':=fun l=>some l≠(u7 : Value).ownBlock∧some l≠(u8 : Value).ownBlock∧l≠u) ho0 (fun l F=>⟨(aG (bl (kr x.out)) l F),(aG (bm (by (with_reducible repeat (first|apply ah|apply ai|apply aj));exact s.out)) l F),(kf m F)⟩)) (ar (kw HB.out)));replace x:=ka (aD (kr x.out) hb);replace s:=ka (aJ (by (with_reducible repeat (first|apply ah|apply ai|apply aj));exact s.out) hb);replace m:=kbb m hb;replace HB:=ka (az (kw HB.out) hb);(try clear hb ho0);obtain ⟨k5,k6,k7⟩:=aT B.out;(first|subst k7|(injection k7 with f1_ f2_ f3_;have f4_:=f1_.symm;have f5_:=f3_.symm;clear f1_ f2_ f3_;subst f4_;subst f5_));obtain ⟨c8,c9,d0⟩:=aT E.out;(first|subst d0|(injection d0 with f1_ f2_ f3_;have f4_:=f1_.symm;have f5_:=f3_.symm;clear f1_ f2_ f3_;subst f4_;subst f5_));refine hK.out _ _ (((HB.out.cell (af w _ hw732_0)).trans hw732_0)) (fun hHeld=>?_);clear hK K;refine bh (a':=?_) ?_ ?_;rotate_left
             ·show Act.put _ (some 45) _ = _
              simp only [Act.put,ac,ad,ae,ak,al]
              rfl
             refine two_ (i:=7) (j:=8) (Ni:=some 46) (Nj:=some 11) #[aa,aa,aa,aa,aa,aa,aa,aa,ab,ab] #[aa,aa,aa,aa,aa,aa,aa,ab,aa,ab] rfl rfl rfl rfl (two_of HT_.out (by kernel_rfl)) (by decide) (by decide) (fun K hK=>?_) (fun K hK=>?_)
             ·skip
              refine bt Try.func25 (by kernel_rfl) rfl #[.agg #[.slice k5 a7.length k6,.bool b5],.agg #[.slice c8 a8.length c9,.bool b6]] (by rfl) rfl rfl (by (try simp only [au,aI,aN]);first|done|rfl|(simp only [av,aw];rfl)) ?_;with_reducible refine (bd k2 _ _ a7 b5 _ _ a8 b6 L O _ ?side1 ?side2 ?side3 ?side4 i0.out).mono ?_
              (case side1=>repeat (first|exact (an B.out).2.2|with_reducible first|refine ax ?_ _|refine ay ?_ _|refine aH ?_));(case side2=>exact (an B.out).2.1);(case side3=>repeat (first|exact (an E.out).2.2|with_reducible first|refine ax ?_ _|refine ay ?_ _|refine aH ?_));(case side4=>exact (an E.out).2.1);rintro e w8 ⟨d2,rfl,ho0,hb⟩;refine ⟨_,rfl,?_⟩;replace d:=kvb d hb;replace B:=kvb B hb;replace E:=kvb E hb;have I:=ka (ba (ag (ok':=fun l=>some l≠(u7 : Value).ownBlock∧some l≠(u8 : Value).ownBlock∧l≠u) ho0 (fun l F=>⟨(aG (bl (kr x.out)) l F),(aG (bm (by (with_reducible repeat (first|apply ah|apply ai|apply aj));exact s.out)) l F),(kf m F)⟩)) (ar (kw HB.out)));replace x:=ka (aD (kr x.out) hb);replace s:=ka (aJ (by (with_reducible repeat (first|apply ah|apply ai|apply aj));exact s.out) hb);replace m:=kbb m hb;replace HB:=ka (az (kw HB.out) hb);(try clear hb ho0);refine hK.out _ _ (((HB.out.cell (af w _ hw732_0)).trans hw732_0)) (fun hHeld=>?_);clear hK K;refine bh (a':=?_) ?_ ?_;rotate_left
              ·show Act.put _ (some 46) _ = _
               simp only [Act.put,ac,ad,ae,ak,al]
               rfl
              refine bE (i:=8) (N:=some 11) #[aa,aa,aa,aa,aa,aa,aa,aa,aa,ab] rfl rfl (bj HT_.out (by kernel_rfl)) (by decide) (fun K hK=>?_);refine box_step ?hg (N:=11) ?hd (cs:=#[.slice none 0 0,.bool false]) (t:=51) ?hr ?_;(case hd=>rfl);(case hg=>rfl);(case hr=>first|(go_simp;done)|(go_simp;rfl));intro q hg k8 hbox hb;replace x:=ka (aD (kr x.out) hb);replace s:=ka (aJ (bv (by (with_reducible repeat (first|apply ah|apply ai|apply aj));exact s.out) q (aC hg.symm)) hb);replace d:=ka (aE (aU (kv d.out) q (aC hg.symm)) hb);replace B:=ka (aE (aU (kv B.out) q (aC hg.symm)) hb);replace E:=ka (aE (aU (kv E.out) q (aC hg.symm)) hb);replace I:=ka (aE (aU (kv I.out) q (aC hg.symm)) hb);have y:=ka (hbox);have a4:=ka ((by rw [hg];exact (ar (kw HB.out)) : w.heap.size≤q));have b8:=ka ((by rw [hg];exact (ar (kw HB.out)) : w.heap.size≤q));replace HB:=ka (az (kw HB.out) hb);have M:=knb hg m;have X:=ka M.out.symm;replace m:=kbb m hb;clear hb hbox hg;refine hK.out _ _ (((HB.out.cell (af w _ hw732_0)).trans hw732_0)) (fun hHeld=>?_);clear hK K;refine bh (a':=?_) ?_ ?_;rotate_left
              ·show Act.put _ (some 11) _ = _
               simp only [Act.put,ac,ad,ae,ak,al]
               rfl
              exact bh (by simp only [putAll,Act.put,ac,ad,ae]) (hCont (.slice k5 a7.length k6,.slice c8 a8.length c9,d2,q) _ ⟨hHeld,(kv (ag B.out (fun _=>ra3))),(kv (ag E.out (fun _=>ra3))),(kv (ag I.out (fun _=>ra3))),(kr x.out),(kv (ag d.out (fun _=>ra3))),(by (with_reducible repeat (first|apply ah|apply ai|apply aj));exact bc s.out (fun _=>ra2)),(kz m.out),(kz y.out),a4.out,b8.out,M.out,X.out,(kw HB.out)⟩)
             ·skip
              refine box_step ?hg (N:=11) ?hd (cs:=#[.slice none 0 0,.bool false]) (t:=51) ?hr ?_;(case hd=>rfl);(case hg=>rfl);(case hr=>first|(go_simp;done)|(go_simp;rfl));intro q hg o2 hbox hb;replace x:=ka (aD (kr x.out) hb);replace s:=ka (aJ (bv (by (with_reducible repeat (first|apply ah|apply ai|apply aj));exact s.out) q (aC hg.symm)) hb);replace d:=ka (aE (aU (kv d.out) q (aC hg.symm)) hb);replace B:=ka (aE (aU (kv B.out) q (aC hg.symm)) hb);replace E:=ka (aE (aU (kv E.out) q (aC hg.symm)) hb);have y:=ka (hbox);have a4:=ka ((by rw [hg];exact (ar (kw HB.out)) : w.heap.size≤q));have b8:=ka ((by rw [hg];exact (ar (kw HB.out)) : w.heap.size≤q));replace HB:=ka (az (kw HB.out) hb);have M:=knb hg m;have X:=ka M.out.symm;replace m:=kbb m hb;clear hb hbox hg;obtain ⟨c8,c9,d0⟩:=aT B.out;(first|subst d0|(injection d0 with f1_ f2_ f3_;have f4_:=f1_.symm;have f5_:=f3_.symm;clear f1_ f2_ f3_;subst f4_;subst f5_));obtain ⟨d4,d5,d6⟩:=aT E.out;(first|subst d6|(injection d6 with f1_ f2_ f3_;have f4_:=f1_.symm;have f5_:=f3_.symm;clear f1_ f2_ f3_;subst f4_;subst f5_));refine hK.out _ _ (((HB.out.cell (af w _ hw732_0)).trans hw732_0)) (fun hHeld=>?_);clear hK K;refine bh (a':=?_) ?_ ?_;rotate_left
              ·show Act.put _ (some 11) _ = _
               simp only [Act.put,ac,ad,ae,ak,al]
               rfl
              refine bE (i:=7) (N:=some 46) #[aa,aa,aa,aa,aa,aa,aa,aa,aa,ab] rfl rfl (bj HT_.out (by kernel_rfl)) (by decide) (fun K hK=>?_);refine bt Try.func25 (by kernel_rfl) rfl #[.agg #[.slice c8 a7.length c9,.bool b5],.agg #[.slice d4 a8.length d5,.bool b6]] (by rfl) rfl rfl (by (try simp only [au,aI,aN]);first|done|rfl|(simp only [av,aw];rfl)) ?_;with_reducible refine (bd k2 _ _ a7 b5 _ _ a8 b6 L O _ ?side1 ?side2 ?side3 ?side4 i0.out).mono ?_
              (case side1=>repeat (first|exact (an B.out).2.2|with_reducible first|refine ax ?_ _|refine ay ?_ _|refine aH ?_));(case side2=>exact (an B.out).2.1);(case side3=>repeat (first|exact (an E.out).2.2|with_reducible first|refine ax ?_ _|refine ay ?_ _|refine aH ?_));(case side4=>exact (an E.out).2.1);rintro e k8 ⟨d2,rfl,ho0,hb⟩;refine ⟨_,rfl,?_⟩;replace d:=kvb d hb;replace B:=kvb B hb;replace E:=kvb E hb;have I:=ka (ba (ag (ok':=fun l=>some l≠(u7 : Value).ownBlock∧some l≠(u8 : Value).ownBlock∧l≠u∧l≠q) ho0 (fun l F=>⟨(aG (bl (kr x.out)) l F),(aG (bm (by (with_reducible repeat (first|apply ah|apply ai|apply aj));exact s.out)) l F),(kf m F),(kf y F)⟩)) (ar (kw HB.out)));replace x:=ka (aD (kr x.out) hb);replace s:=ka (aJ (by (with_reducible repeat (first|apply ah|apply ai|apply aj));exact s.out) hb);replace m:=kbb m hb;replace y:=kbb y hb;replace HB:=ka (az (kw HB.out) hb);(try clear hb ho0);refine hK.out _ _ (((HB.out.cell (af w _ hw732_0)).trans hw732_0)) (fun hHeld=>?_);clear hK K;refine bh (a':=?_) ?_ ?_;rotate_left
              ·show Act.put _ (some 46) _ = _
               simp only [Act.put,ac,ad,ae,ak,al]
               rfl
              exact bh (by simp only [putAll,Act.put,ac,ad,ae]) (hCont (.slice c8 a7.length c9,.slice d4 a8.length d5,d2,q) _ ⟨hHeld,(kv (ag B.out (fun _=>ra3))),(kv (ag E.out (fun _=>ra3))),(kv I.out),(kr x.out),(kv (ag d.out (fun _=>ra3))),(by (with_reducible repeat (first|apply ah|apply ai|apply aj));exact bc s.out (fun _=>ra2)),(kz m.out),(kz y.out),a4.out,b8.out,M.out,X.out,(kw HB.out)⟩)
            ·skip
             refine box_step ?hg (N:=11) ?hd (cs:=#[.slice none 0 0,.bool false]) (t:=51) ?hr ?_;(case hd=>rfl);(case hg=>rfl);(case hr=>first|(go_simp;done)|(go_simp;rfl));intro q hg o1 hbox hb;replace x:=ka (aD (kr x.out) hb);replace s:=ka (aJ (bv (by (with_reducible repeat (first|apply ah|apply ai|apply aj));exact s.out) q (aC hg.symm)) hb);replace d:=ka (aE (aU (kv d.out) q (aC hg.symm)) hb);replace B:=ka (aE (aU (kv B.out) q (aC hg.symm)) hb);have y:=ka (hbox);have a4:=ka ((by rw [hg];exact (ar (kw HB.out)) : w.heap.size≤q));have b8:=ka ((by rw [hg];exact (ar (kw HB.out)) : w.heap.size≤q));replace HB:=ka (az (kw HB.out) hb);have M:=knb hg m;have X:=ka M.out.symm;replace m:=kbb m hb;clear hb hbox hg;refine hK.out _ _ (((HB.out.cell (af w _ hw732_0)).trans hw732_0)) (fun hHeld=>?_);clear hK K;refine bh (a':=?_) ?_ ?_;rotate_left
             ·show Act.put _ (some 11) _ = _
              simp only [Act.put,ac,ad,ae,ak,al]
              rfl
             refine bE (i:=6) (N:=some 45) #[aa,aa,aa,aa,aa,aa,aa,ab,aa,ab] rfl rfl (bj HT_.out (by kernel_rfl)) (by decide) (fun K hK=>?_);refine bt Try.func24 (by kernel_rfl) rfl #[.int .i64 (rd l1 x10_2)] (by rfl) rfl rfl (by (try simp only [au,aI,aN]);first|done|rfl|(simp only [av,aw];rfl)) ?_;with_reducible refine (bb k2 (rd l1 x10_2) a8 b6 _ j4.out).mono ?_
             rintro e o2 ⟨f5,rfl,ho0,hb⟩;refine ⟨_,rfl,?_⟩;replace d:=kvb d hb;replace B:=kvb B hb;have E:=ka (ba (ag (ok':=fun l=>some l≠(u7 : Value).ownBlock∧some l≠(u8 : Value).ownBlock∧l≠u∧l≠q) ho0 (fun l F=>⟨(aG (bl (kr x.out)) l F),(aG (bm (by (with_reducible repeat (first|apply ah|apply ai|apply aj));exact s.out)) l F),(kf m F),(kf y F)⟩)) (ar (kw HB.out)));replace x:=ka (aD (kr x.out) hb);replace s:=ka (aJ (by (with_reducible repeat (first|apply ah|apply ai|apply aj));exact s.out) hb);replace m:=kbb m hb;replace y:=kbb y hb;replace HB:=ka (az (kw HB.out) hb);(try clear hb ho0);obtain ⟨c8,c9,d0⟩:=aT B.out;(first|subst d0|(injection d0 with f1_ f2_ f3_;have f4_:=f1_.symm;have f5_:=f3_.symm;clear f1_ f2_ f3_;subst f4_;subst f5_));obtain ⟨d4,d5,d6⟩:=aT E.out;(first|subst d6|(injection d6 with f1_ f2_ f3_;have f4_:=f1_.symm;have f5_:=f3_.symm;clear f1_ f2_ f3_;subst f4_;subst f5_));refine hK.out _ _ (((HB.out.cell (af w _ hw732_0)).trans hw732_0)) (fun hHeld=>?_);clear hK K;refine bh (a':=?_) ?_ ?_;rotate_left
             ·show Act.put _ (some 45) _ = _
              simp only [Act.put,ac,ad,ae,ak,al]
              rfl
             refine bE (i:=7) (N:=some 46) #[aa,aa,aa,aa,aa,aa,aa,aa,aa,ab] rfl rfl (bj HT_.out (by kernel_rfl)) (by decide) (fun K hK=>?_);refine bt Try.func25 (by kernel_rfl) rfl #[.agg #[.slice c8 a7.length c9,.bool b5],.agg #[.slice d4 a8.length d5,.bool b6]] (by rfl) rfl rfl (by (try simp only [au,aI,aN]);first|done|rfl|(simp only [av,aw];rfl)) ?_;with_reducible refine (bd k2 _ _ a7 b5 _ _ a8 b6 L O _ ?side1 ?side2 ?side3 ?side4 i0.out).mono ?_
             (case side1=>repeat (first|exact (an B.out).2.2|with_reducible first|refine ax ?_ _|refine ay ?_ _|refine aH ?_));(case side2=>exact (an B.out).2.1);(case side3=>repeat (first|exact (an E.out).2.2|with_reducible first|refine ax ?_ _|refine ay ?_ _|refine aH ?_));(case side4=>exact (an E.out).2.1);rintro e k8 ⟨d2,rfl,ho0,hb⟩;refine ⟨_,rfl,?_⟩;replace d:=kvb d hb;replace B:=kvb B hb;replace E:=kvb E hb;have I:=ka (ba (ag (ok':=fun l=>some l≠(u7 : Value).ownBlock∧some l≠(u8 : Value).ownBlock∧l≠u∧l≠q) ho0 (fun l F=>⟨(aG (bl (kr x.out)) l F),(aG (bm (by (with_reducible repeat (first|apply ah|apply ai|apply aj));exact s.out)) l F),(kf m F),(kf y F)⟩)) (ar (kw HB.out)));replace x:=ka (aD (kr x.out) hb);replace s:=ka (aJ (by (with_reducible repeat (first|apply ah|apply ai|apply aj));exact s.out) hb);replace m:=kbb m hb;replace y:=kbb y hb;replace HB:=ka (az (kw HB.out) hb);(try clear hb ho0);refine hK.out _ _ (((HB.out.cell (af w _ hw732_0)).trans hw732_0)) (fun hHeld=>?_);clear hK K;refine bh (a':=?_) ?_ ?_;rotate_left
             ·show Act.put _ (some 46) _ = _
              simp only [Act.put,ac,ad,ae,ak,al]
              rfl
             exact bh (by simp only [putAll,Act.put,ac,ad,ae]) (hCont (.slice c8 a7.length c9,.slice d4 a8.length d5,d2,q) _ ⟨hHeld,(kv (ag B.out (fun _=>ra3))),(kv E.out),(kv I.out),(kr x.out),(kv (ag d.out (fun _=>ra3))),(by (with_reducible repeat (first|apply ah|apply ai|apply aj));exact bc s.out (fun _=>ra2)),(kz m.out),(kz y.out),a4.out,b8.out,M.out,X.out,(kw HB.out)⟩)
           ·skip
            refine box_step ?hg (N:=11) ?hd (cs:=#[.slice none 0 0,.bool false]) (t:=51) ?hr ?_;(case hd=>rfl);(case hg=>rfl);(case hr=>first|(go_simp;done)|(go_simp;rfl));intro q hg r2 hbox hb;replace x:=ka (aD (kr x.out) hb);replace s:=ka (aJ (bv (by (with_reducible repeat (first|apply ah|apply ai|apply aj));exact s.out) q (aC hg.symm)) hb);replace d:=ka (aE (aU (kv d.out) q (aC hg.symm)) hb);have y:=ka (hbox);have a4:=ka ((by rw [hg];exact (ar (kw HB.out)) : w.heap.size≤q));have b8:=ka ((by rw [hg];exact (ar (kw HB.out)) : w.heap.size≤q));replace HB:=ka (az (kw HB.out) hb);have M:=knb hg m;have X:=ka M.out.symm;replace m:=kbb m hb;clear hb hbox hg;refine hK.out _ _ (((HB.out.cell (af w _ hw732_0)).trans hw732_0)) (fun hHeld=>?_);clear hK K;refine bh (a':=?_) ?_ ?_;rotate_left
            ·show Act.put _ (some 11) _ = _
             simp only [Act.put,ac,ad,ae,ak,al]
             rfl
            refine bE (i:=1) (N:=some 40) #[aa,aa,aa,aa,aa,aa,ab,ab,aa,ab] rfl rfl (bj HT_.out (by kernel_rfl)) (by decide) (fun K hK=>?_);refine bt Try.func24 (by kernel_rfl) rfl #[.int .i64 a0] (by rfl) rfl rfl (by (try simp only [au,aI,aN]);first|done|rfl|(simp only [av,aw];rfl)) ?_;with_reducible refine (bb k2 a0 a7 b5 _ o0.out).mono ?_
            rintro e o1 ⟨g8,rfl,ho0,hb⟩;refine ⟨_,rfl,?_⟩;replace d:=kvb d hb;have B:=ka (ba (ag (ok':=fun l=>some l≠(u7 : Value).ownBlock∧some l≠(u8 : Value).ownBlock∧l≠u∧l≠q) ho0 (fun l F=>⟨(aG (bl (kr x.out)) l F),(aG (bm (by (with_reducible repeat (first|apply ah|apply ai|apply aj));exact s.out)) l F),(kf m F),(kf y F)⟩)) (ar (kw HB.out)));replace x:=ka (aD (kr x.out) hb);replace s:=ka (aJ (by (with_reducible repeat (first|apply ah|apply ai|apply aj));exact s.out) hb);replace m:=kbb m hb;replace y:=kbb y hb;replace HB:=ka (az (kw HB.out) hb);(try clear hb ho0);refine hK.out _ _ (((HB.out.cell (af w _ hw732_0)).trans hw732_0)) (fun hHeld=>?_);clear hK K;refine bh (a':=?_) ?_ ?_;rotate_left
            ·show Act.put _ (some 40) _ = _
             simp only [Act.put,ac,ad,ae,ak,al]
             rfl
            refine bE (i:=6) (N:=some 45) #[aa,aa,aa,aa,aa,aa,aa,ab,aa,ab] rfl rfl (bj HT_.out (by kernel_rfl)) (by decide) (fun K hK=>?_);refine bt Try.func24 (by kernel_rfl) rfl #[.int .i64 (rd l1 x10_2)] (by rfl) rfl rfl (by (try simp only [au,aI,aN]);first|done|rfl|(simp only [av,aw];rfl)) ?_;with_reducible refine (bb k2 (rd l1 x10_2) a8 b6 _ j4.out).mono ?_
            rintro e o2 ⟨f5,rfl,ho0,hb⟩;refine ⟨_,rfl,?_⟩;replace d:=kvb d hb;replace B:=kvb B hb;have E:=ka (ba (ag (ok':=fun l=>some l≠(u7 : Value).ownBlock∧some l≠(u8 : Value).ownBlock∧l≠u∧l≠q) ho0 (fun l F=>⟨(aG (bl (kr x.out)) l F),(aG (bm (by (with_reducible repeat (first|apply ah|apply ai|apply aj));exact s.out)) l F),(kf m F),(kf y F)⟩)) (ar (kw HB.out)));replace x:=ka (aD (kr x.out) hb);replace s:=ka (aJ (by (with_reducible repeat (first|apply ah|apply ai|apply aj));exact s.out) hb);replace m:=kbb m hb;replace y:=kbb y hb;replace HB:=ka (az (kw HB.out) hb);(try clear hb ho0);obtain ⟨c8,c9,d0⟩:=aT B.out;(first|subst d0|(injection d0 with f1_ f2_ f3_;have f4_:=f1_.symm;have f5_:=f3_.symm;clear f1_ f2_ f3_;subst f4_;subst f5_));obtain ⟨d4,d5,d6⟩:=aT E.out;(first|subst d6|(injection d6 with f1_ f2_ f3_;have f4_:=f1_.symm;have f5_:=f3_.symm;clear f1_ f2_ f3_;subst f4_;subst f5_));refine hK.out _ _ (((HB.out.cell (af w _ hw732_0)).trans hw732_0)) (fun hHeld=>?_);clear hK K;refine bh (a':=?_) ?_ ?_;rotate_left
            ·show Act.put _ (some 45) _ = _
             simp only [Act.put,ac,ad,ae,ak,al]
             rfl
            refine bE (i:=7) (N:=some 46) #[aa,aa,aa,aa,aa,aa,aa,aa,aa,ab] rfl rfl (bj HT_.out (by kernel_rfl)) (by decide) (fun K hK=>?_);refine bt Try.func25 (by kernel_rfl) rfl #[.agg #[.slice c8 a7.length c9,.bool b5],.agg #[.slice d4 a8.length d5,.bool b6]] (by rfl) rfl rfl (by (try simp only [au,aI,aN]);first|done|rfl|(simp only [av,aw];rfl)) ?_;with_reducible refine (bd k2 _ _ a7 b5 _ _ a8 b6 L O _ ?side1 ?side2 ?side3 ?side4 i0.out).mono ?_
            (case side1=>repeat (first|exact (an B.out).2.2|with_reducible first|refine ax ?_ _|refine ay ?_ _|refine aH ?_));(case side2=>exact (an B.out).2.1);(case side3=>repeat (first|exact (an E.out).2.2|with_reducible first|refine ax ?_ _|refine ay ?_ _|refine aH ?_));(case side4=>exact (an E.out).2.1);rintro e k8 ⟨d2,rfl,ho0,hb⟩;refine ⟨_,rfl,?_⟩;replace d:=kvb d hb;replace B:=kvb B hb;replace E:=kvb E hb;have I:=ka (ba (ag (ok':=fun l=>some l≠(u7 : Value).ownBlock∧some l≠(u8 : Value).ownBlock∧l≠u∧l≠q) ho0 (fun l F=>⟨(aG (bl (kr x.out)) l F),(aG (bm (by (with_reducible repeat (first|apply ah|apply ai|apply aj));exact s.out)) l F),(kf m F),(kf y F)⟩)) (ar (kw HB.out)));replace x:=ka (aD (kr x.out) hb);replace s:=ka (aJ (by (with_reducible repeat (first|apply ah|apply ai|apply aj));exact s.out) hb);replace m:=kbb m hb;replace y:=kbb y hb;replace HB:=ka (az (kw HB.out) hb);(try clear hb ho0);refine hK.out _ _ (((HB.out.cell (af w _ hw732_0)).trans hw732_0)) (fun hHeld=>?_);clear hK K;refine bh (a':=?_) ?_ ?_;rotate_left
            ·show Act.put _ (some 46) _ = _
             simp only [Act.put,ac,ad,ae,ak,al]
             rfl
            exact bh (by simp only [putAll,Act.put,ac,ad,ae]) (hCont (.slice c8 a7.length c9,.slice d4 a8.length d5,d2,q) _ ⟨hHeld,(kv B.out),(kv E.out),(kv I.out),(kr x.out),(kv (ag d.out (fun _=>ra3))),(by (with_reducible repeat (first|apply ah|apply ai|apply aj));exact bc s.out (fun _=>ra2)),(kz m.out),(kz y.out),a4.out,b8.out,M.out,X.out,(kw HB.out)⟩)
          rintro ⟨g8,f5,d2,q⟩ b3 ⟨hS_,h0_,h1_,h2_,h3_,h4_,h5_,h6_,h7_,h8_,h9_,h10_,h11_,h12_⟩;have B : aA (bz (aZ .u64) 60 b3 w.heap.size (fun l=>some l≠(u7 : Value).ownBlock∧some l≠(u8 : Value).ownBlock∧l≠u∧l≠q) g8 a7):=⟨h0_⟩
          have E : aA (bz (aZ .u64) 60 b3 w.heap.size (fun l=>some l≠(u7 : Value).ownBlock∧some l≠(u8 : Value).ownBlock∧l≠u∧l≠q) f5 a8):=⟨h1_⟩
          have I : aA (bz (aZ .u64) 60 b3 w.heap.size (fun l=>some l≠(u7 : Value).ownBlock∧some l≠(u8 : Value).ownBlock∧l≠u∧l≠q) d2 L):=⟨h2_⟩
          replace x : aA (bK (aZ .i64) 2 b3 w.heap.size (fun _=>True) u7 x7_2):=⟨h3_⟩
          replace d : aA (bz (aZ .u64) 60 b3 w.heap.size (fun l=>some l≠(u7 : Value).ownBlock∧some l≠(u8 : Value).ownBlock∧l≠u∧l≠q) W A):=⟨h4_⟩
          replace s : aA (Kd.N k51 51 b3 w.heap.size (fun l=>some l≠(u7 : Value).ownBlock∧l≠u∧l≠q) u8 x8_2):=⟨h5_⟩
          replace m : aA (b3.heap[u]? = some (.cells #[W,.bool z] 51 (0,0))):=⟨h6_⟩
          have y : aA (b3.heap[q]? = some (.cells #[.slice none 0 0,.bool false] 51 (0,0))):=⟨h7_⟩
          have a4 : aA (w.heap.size≤q):=⟨h8_⟩
          have b8 : aA (w.heap.size≤q):=⟨h9_⟩
          have M : aA (u≠q):=⟨h10_⟩
          have X : aA (q≠u):=⟨h11_⟩
          replace HB : aA (Below w.heap.size w b3):=⟨h12_⟩
          clear h0_ h1_ h2_ h3_ h4_ h5_ h6_ h7_ h8_ h9_ h10_ h11_ h12_;have hHeld : b3.cell? (ad732.add (x10_2).toNat) = some (.int .i64 (rd l1 x10_2)):=hS_;obtain ⟨a2,a3,k9⟩:=aT I.out;(first|subst k9|(injection k9 with f1_ f2_ f3_;have f4_:=f1_.symm;have f5_:=f3_.symm;clear f1_ f2_ f3_;subst f4_;subst f5_));refine bh (a':=?_) ?_ ?_;rotate_left
          ·simp only [putAll,Act.put,ac,ad,ae]
           rfl
          refine bE (i:=9) (N:=none) #[aa,aa,aa,aa,aa,aa,aa,aa,aa,aa] rfl rfl (bj HT_.out (by kernel_rfl)) (by decide) (fun K hK=>?_);have hs38 : b3.cell? ⟨q,0,none⟩ = some (.slice none 0 0):=(ao y.out 0).trans rfl;have hfs38:=bF y.out 0;have hns38_0:=M.out;have hms38_0:=X.out;have hs39 : b3.cell? ⟨q,1,none⟩ = some (.bool false):=(ao y.out 1).trans rfl;have hfs39:=bF y.out 1;have hns39_0:=M.out;have hms39_0:=X.out;refine skip_ (w1:=?_) (by rfl) rfl ?_ ?_;rotate_left
          ·go_simp
           rfl
          refine hK.out _ _ (((cell_far (p:=⟨q,_,none⟩) (by first|exact Nat.ne_of_lt (aX (by have:=af _ _ hw732_0;first|rwa [bg] at this|exact this) a4.out)|(rw [bg];exact Nat.ne_of_lt (aX (by have:=af _ _ hw732_0;first|rwa [bg] at this|exact this) a4.out))|(show (Addr.add _ _).block≠_;rw [bg];exact Nat.ne_of_lt (aX (by have:=af _ _ hw732_0;first|rwa [bg] at this|exact this) a4.out))|(dsimp only;exact Nat.ne_of_lt (aX (by have:=af _ _ hw732_0;first|rwa [bg] at this|exact this) a4.out))) _).trans (((cell_far (p:=⟨q,_,none⟩) (by first|exact Nat.ne_of_lt (aX (by have:=af _ _ hw732_0;first|rwa [bg] at this|exact this) a4.out)|(rw [bg];exact Nat.ne_of_lt (aX (by have:=af _ _ hw732_0;first|rwa [bg] at this|exact this) a4.out))|(show (Addr.add _ _).block≠_;rw [bg];exact Nat.ne_of_lt (aX (by have:=af _ _ hw732_0;first|rwa [bg] at this|exact this) a4.out))|(dsimp only;exact Nat.ne_of_lt (aX (by have:=af _ _ hw732_0;first|rwa [bg] at this|exact this) a4.out))) _).trans (hHeld))))) (fun hHeld=>?_);clear hK K;refine done_ (bC HT_.out (by kernel_rfl)) ?_;have e1 : aA (bK (aZ .i64) 2 ((b3.setCell ⟨q,0,none⟩ (.slice a2 L.length a3)).setCell ⟨q,1,none⟩ (.bool O)) w.heap.size (fun _=>True) u7 x7_2):=⟨kr (Kd.R_mono (Kd.R_far (p:=⟨q,1,none⟩) (Kd.R_far (p:=⟨q,0,none⟩) (Kd.R_types x.out y.out (by decide)) (fun _ hk=>hk.2) (.slice a2 L.length a3)) (fun _ hk=>hk.2) (.bool O)) (fun _ hk=>trivial))⟩
          have e2 : aA (Kd.N k51 51 ((b3.setCell ⟨q,0,none⟩ (.slice a2 L.length a3)).setCell ⟨q,1,none⟩ (.bool O)) w.heap.size (fun l=>some l≠(u7 : Value).ownBlock∧l≠u∧l≠q) u8 x8_2):=⟨by (with_reducible repeat (first|apply ah|apply ai|apply aj));exact bc (Kd.N_far (p:=⟨q,1,none⟩) (Kd.N_far (p:=⟨q,0,none⟩) (bc s.out (fun l hk=>(⟨hk,hk.2.2⟩ : _∧l≠q))) (fun _ hk=>hk.2) (.slice a2 L.length a3)) (fun _ hk=>hk.2) (.bool O)) (fun _ hk=>⟨hk.1.1,⟨hk.1.2.1,hk.1.2.2⟩⟩)⟩
          have d8 : aA (bz (aZ .u64) 60 ((b3.setCell ⟨q,0,none⟩ (.slice a2 L.length a3)).setCell ⟨q,1,none⟩ (.bool O)) w.heap.size (fun l=>some l≠(u7 : Value).ownBlock∧some l≠(u8 : Value).ownBlock∧l≠u∧l≠q) W A):=⟨kv (ag (aW (p:=⟨q,1,none⟩) (aW (p:=⟨q,0,none⟩) (ag d.out (fun l hk=>(⟨hk,hk.2.2.2⟩ : _∧l≠q))) (fun _ hk=>hk.2) (.slice a2 L.length a3)) (fun _ hk=>hk.2) (.bool O)) (fun _ hk=>⟨hk.1.1,⟨hk.1.2.1,⟨hk.1.2.2.1,hk.1.2.2.2⟩⟩⟩))⟩
          have e3 : aA (bz (aZ .u64) 60 ((b3.setCell ⟨q,0,none⟩ (.slice a2 L.length a3)).setCell ⟨q,1,none⟩ (.bool O)) w.heap.size (fun l=>some l≠(u7 : Value).ownBlock∧some l≠(u8 : Value).ownBlock∧l≠u∧l≠q) g8 a7):=⟨kv (ag (aW (p:=⟨q,1,none⟩) (aW (p:=⟨q,0,none⟩) (ag B.out (fun l hk=>(⟨hk,hk.2.2.2⟩ : _∧l≠q))) (fun _ hk=>hk.2) (.slice a2 L.length a3)) (fun _ hk=>hk.2) (.bool O)) (fun _ hk=>⟨hk.1.1,⟨hk.1.2.1,⟨hk.1.2.2.1,hk.1.2.2.2⟩⟩⟩))⟩
          have f6 : aA (bz (aZ .u64) 60 ((b3.setCell ⟨q,0,none⟩ (.slice a2 L.length a3)).setCell ⟨q,1,none⟩ (.bool O)) w.heap.size (fun l=>some l≠(u7 : Value).ownBlock∧some l≠(u8 : Value).ownBlock∧l≠u∧l≠q) f5 a8):=⟨kv (ag (aW (p:=⟨q,1,none⟩) (aW (p:=⟨q,0,none⟩) (ag E.out (fun l hk=>(⟨hk,hk.2.2.2⟩ : _∧l≠q))) (fun _ hk=>hk.2) (.slice a2 L.length a3)) (fun _ hk=>hk.2) (.bool O)) (fun _ hk=>⟨hk.1.1,⟨hk.1.2.1,⟨hk.1.2.2.1,hk.1.2.2.2⟩⟩⟩))⟩
          have f7 : aA (bz (aZ .u64) 60 ((b3.setCell ⟨q,0,none⟩ (.slice a2 L.length a3)).setCell ⟨q,1,none⟩ (.bool O)) w.heap.size (fun l=>some l≠(u7 : Value).ownBlock∧some l≠(u8 : Value).ownBlock∧l≠u∧l≠q) (.slice a2 L.length a3) L):=⟨kv (ag (aW (p:=⟨q,1,none⟩) (aW (p:=⟨q,0,none⟩) (ag I.out (fun l hk=>(⟨hk,hk.2.2.2⟩ : _∧l≠q))) (fun _ hk=>hk.2) (.slice a2 L.length a3)) (fun _ hk=>hk.2) (.bool O)) (fun _ hk=>⟨hk.1.1,⟨hk.1.2.1,⟨hk.1.2.2.1,hk.1.2.2.2⟩⟩⟩))⟩
          have f8 : aA (((b3.setCell ⟨q,0,none⟩ (.slice a2 L.length a3)).setCell ⟨q,1,none⟩ (.bool O)).heap[u]? = some (.cells #[W,.bool z] 51 (0,0))):=⟨by (with_reducible repeat (first|apply kb1|apply kb2|apply kb3|refine kb4 ?_ M.out _));exact m.out⟩
          have f9 : aA (((b3.setCell ⟨q,0,none⟩ (.slice a2 L.length a3)).setCell ⟨q,1,none⟩ (.bool O)).heap[q]? = some (.cells #[.slice a2 L.length a3,.bool O] 51 (0,0))):=⟨by (with_reducible repeat (first|apply kb1|apply kb2|apply kb3|apply blkPut2_1|apply blkPut2_0));exact y.out⟩
          have g0 : aA (Below w.heap.size w ((b3.setCell ⟨q,0,none⟩ (.slice a2 L.length a3)).setCell ⟨q,1,none⟩ (.bool O))):=⟨by repeat (first|(with_reducible first|exact HB.out|apply kc1|apply kc2|apply kc3|refine kc4 ?_ b2.out|refine kc4 ?_ b8.out)|exact HB.out)⟩
          (try clear x);(try clear s);(try clear d);(try clear B);(try clear E);(try clear I);(try clear m);(try clear y);(try clear HB);generalize ((b3.setCell ⟨q,0,none⟩ (.slice a2 L.length a3)).setCell ⟨q,1,none⟩ (.bool O)) = x2 at e1 e2 d8 e3 f6 f7 f8 f9 g0 ⊢;have x:=e1;have s:=e2;have d:=d8;have B:=e3;have E:=f6;have I:=f7;have m:=f8;have y:=f9;have HB:=g0;clear e1 e2 d8 e3 f6 f7 f8 f9 g0;have r7:=X.out;have r8:=M.out;have i1:=blkAll2 y.out;have i2:=blkAll2 m.out;obtain ⟨g9,h0,p0⟩:=aT d.out;subst p0;try go_wp2_with (first|((with_reducible refine gate_callee (f:=26) rfl ?_);refine kg (some 49) rfl rfl Try.func26 (by kernel_rfl) rfl #[.agg #[.slice a2 L.length a3,.bool O],.agg #[.slice g9 A.length h0,.bool z],.int .i64 1] rfl ?_;(with_reducible refine (trivetref01_Quotient.calls k2 (fun l=>(some l≠(u7 : Value).ownBlock∧(some l≠(u8 : Value).ownBlock∧(l≠u∧l≠q)))) _ _ L O (fun l=>(some l≠(u7 : Value).ownBlock∧(some l≠(u8 : Value).ownBlock∧(l≠u∧l≠q)))) _ _ A z 1 a6 a9 _ ?side1 ?side2 q6.out).mono ?_);(case side1=>exact I.out);(case side2=>exact d.out);rintro e x3 ⟨t5,rfl,ho0,hb⟩;refine ⟨_,rfl,?_⟩;replace d:=kvb d hb;replace B:=kvb B hb;replace E:=kvb E hb;replace I:=kvb I hb;have U:=ka (ba (ag (ok':=fun l=>some l≠(u7 : Value).ownBlock∧some l≠(u8 : Value).ownBlock∧l≠u∧l≠q) ho0 (fun l F=>⟨Or.elim F (fun Z=>Or.elim Z (fun Z=>Z.1) (fun Z=>Z.1)) (fun b9=>(aG (bl (kr x.out)) l b9)),Or.elim F (fun Z=>Or.elim Z (fun Z=>Z.2.1) (fun Z=>Z.2.1)) (fun b9=>(aG (bm (by (with_reducible repeat (first|apply ah|apply ai|apply aj));exact s.out)) l b9)),Or.elim F (fun Z=>Or.elim Z (fun Z=>Z.2.2.1) (fun Z=>Z.2.2.1)) (fun b9=>(kf m b9)),Or.elim F (fun Z=>Or.elim Z (fun Z=>Z.2.2.2) (fun Z=>Z.2.2.2)) (fun b9=>(kf y b9))⟩)) (ar (kw HB.out)));replace x:=ka (aD (kr x.out) hb);replace s:=ka (aJ (by (with_reducible repeat (first|apply ah|apply ai|apply aj));exact s.out) hb);replace m:=kbb m hb;replace y:=kbb y hb;replace HB:=ka (az (kw HB.out) hb);(try clear hb ho0))|((with_reducible refine gate_dst (N:=12) rfl ?_);refine kx (N:=12) (cs:=#[.slice none 0 0,.bool false]) (t:=51) ?_;intro D hg x4 hbox hb;have e1:=ka (aD (kr x.out) hb);have e2:=ka (aJ (bv (by (with_reducible repeat (first|apply ah|apply ai|apply aj));exact s.out) D (aC hg.symm)) hb);have d8:=ka (aE (aU (kv d.out) D (aC hg.symm)) hb);have e3:=ka (aE (aU (kv B.out) D (aC hg.symm)) hb);have f6:=ka (aE (aU (kv E.out) D (aC hg.symm)) hb);have f7:=ka (aE (aU (kv I.out) D (aC hg.symm)) hb);have f8:=ka (aE (aU (kv U.out) D (aC hg.symm)) hb);have f9:=ka (bD (g:=u) (kz m.out) hb);have g0:=ka (bD (g:=q) (kz y.out) hb);have o3:=ka (az (kw HB.out) hb);have l4:=ka (hbox);have h4:=ka ((by rw [hg];exact (ar (kw HB.out)) : w.heap.size≤D));have l5:=h4;have h5:=ka ((by rw [hg];exact Nat.ne_of_lt (blk_lt (g:=u) (kz m.out)) : u≠D));have l6:=ka h5.out.symm;have h6:=ka ((by rw [hg];exact Nat.ne_of_lt (blk_lt (g:=q) (kz y.out)) : q≠D));have l7:=ka h6.out.symm;clear x;clear s;clear d;clear B;clear E;clear I;clear U;clear m;clear y;clear HB;have x:=e1;have s:=e2;have d:=d8;have B:=e3;have E:=f6;have I:=f7;have U:=f8;have m:=f9;have y:=g0;have HB:=o3;have J:=l4;have r9:=h4;have n4:=l5;have f2:=h5;have h1:=l6;have f3:=h6;have h2:=l7;clear e1 e2 d8 e3 f6 f7 f8 f9 g0 o3 l4 h4 l5 h5 l6 h6 l7;clear hb hbox hg;obtain ⟨c7,b7,p1⟩:=aT U.out;subst p1;have s6:=h1.out;have s7:=f2.out;have s8:=h2.out;have s9:=f3.out;have i3:=blkAll2 J.out)|((with_reducible refine gate_callee (f:=27) rfl ?_);refine kg (some 52) rfl rfl Try.func27 (by kernel_rfl) rfl #[.agg #[.slice c7 a6.length b7,.bool a9]] rfl ?_;(with_reducible refine (trivetref01_To.calls k2 _ _ a6 a9 c3 o9 _ ?side1 ?side2 q8.out).mono ?_);(case side1=>refine (an (e:=60) (base:=w.heap.size) (ok:=fun l=>((some l≠(u7 : Value).ownBlock∧(some l≠(u8 : Value).ownBlock∧(l≠u∧l≠q)))∧l≠D)) (n:=a6.length) (c:=b7) ?_).2.2;exact (kv ((ag (aW (p:=⟨D,1,none⟩) (aW (p:=⟨D,0,none⟩) (ag U.out (fun l hk=>(⟨hk,hk.2⟩ : _∧l≠D))) (fun _ hk=>hk.2) (.slice c7 a6.length b7)) (fun _ hk=>hk.2) (.bool a9)) (fun _ h_=>h_.1)))));(case side2=>exact (an U.out).2.1);rintro e x5 ⟨rfl,hb⟩;refine ⟨_,rfl,?_⟩;replace x:=ka (aD (kr ((Kd.R_mono (Kd.R_far (p:=⟨D,1,none⟩) (Kd.R_far (p:=⟨D,0,none⟩) (Kd.R_types x.out J.out (by decide)) (fun _ hk=>hk.2) (.slice c7 a6.length b7)) (fun _ hk=>hk.2) (.bool a9)) (fun _ h_=>h_.1)))) hb);replace s:=ka (aJ (by (with_reducible repeat (first|apply ah|apply ai|apply aj));exact (bc (Kd.N_far (p:=⟨D,1,none⟩) (Kd.N_far (p:=⟨D,0,none⟩) (bc s.out (fun l hk=>(⟨hk,hk.2⟩ : _∧l≠D))) (fun _ hk=>hk.2) (.slice c7 a6.length b7)) (fun _ hk=>hk.2) (.bool a9)) (fun _ h_=>h_.1))) hb);replace d:=ka (aE (kv ((ag (aW (p:=⟨D,1,none⟩) (aW (p:=⟨D,0,none⟩) (ag d.out (fun l hk=>(⟨hk,hk.2⟩ : _∧l≠D))) (fun _ hk=>hk.2) (.slice c7 a6.length b7)) (fun _ hk=>hk.2) (.bool a9)) (fun _ h_=>h_.1)))) hb);replace B:=ka (aE (kv ((ag (aW (p:=⟨D,1,none⟩) (aW (p:=⟨D,0,none⟩) (ag B.out (fun l hk=>(⟨hk,hk.2⟩ : _∧l≠D))) (fun _ hk=>hk.2) (.slice c7 a6.length b7)) (fun _ hk=>hk.2) (.bool a9)) (fun _ h_=>h_.1)))) hb);replace E:=ka (aE (kv ((ag (aW (p:=⟨D,1,none⟩) (aW (p:=⟨D,0,none⟩) (ag E.out (fun l hk=>(⟨hk,hk.2⟩ : _∧l≠D))) (fun _ hk=>hk.2) (.slice c7 a6.length b7)) (fun _ hk=>hk.2) (.bool a9)) (fun _ h_=>h_.1)))) hb);replace I:=ka (aE (kv ((ag (aW (p:=⟨D,1,none⟩) (aW (p:=⟨D,0,none⟩) (ag I.out (fun l hk=>(⟨hk,hk.2⟩ : _∧l≠D))) (fun _ hk=>hk.2) (.slice c7 a6.length b7)) (fun _ hk=>hk.2) (.bool a9)) (fun _ h_=>h_.1)))) hb);replace U:=ka (aE (kv ((ag (aW (p:=⟨D,1,none⟩) (aW (p:=⟨D,0,none⟩) (ag U.out (fun l hk=>(⟨hk,hk.2⟩ : _∧l≠D))) (fun _ hk=>hk.2) (.slice c7 a6.length b7)) (fun _ hk=>hk.2) (.bool a9)) (fun _ h_=>h_.1)))) hb);replace m:=ka (bD (g:=u) (o:=.cells #[.slice g9 A.length h0,.bool z] 51 (0,0)) (by (with_reducible repeat (first|apply kb1|apply kb2|apply kb3|refine kb4 ?_ f2.out _));exact m.out) hb);replace y:=ka (bD (g:=q) (o:=.cells #[.slice a2 L.length a3,.bool O] 51 (0,0)) (by (with_reducible repeat (first|apply kb1|apply kb2|apply kb3|refine kb4 ?_ f3.out _));exact y.out) hb);replace J:=ka (bD (g:=D) (o:=.cells #[.slice c7 a6.length b7,.bool a9] 51 (0,0)) (by (with_reducible repeat (first|apply kb1|apply kb2|apply kb3|apply blkPut2_1|apply blkPut2_0));exact J.out) hb);replace HB:=ka (az (kw HB.out) hb);(try clear hb))|((with_reducible refine gate_builtin (b:=.append) (xs:=#[.tmp 55,.tmp 57]) rfl ?_);at_builtin;refine Kd.R_append (aZ .i64) (w0:=w) w.heap.size rfl (.tmp 55) (.tmp 57) 34 2 (.int .i64 0) 8 rfl Try.underlying34 info2 rfl (by decide) (by omega) u7 x7_2 c3 [.int .i64 c3] (fun _=>True) (fun _=>False) rfl rfl ?aP (fun _ hk=>hk.elim) ?aF ?aO ?aB ?aS ?aL ?_;(case aP=>exact rfl);(case aB=>exact (kw HB.out));(case aF=>exact (fun _ _=>trivial));(case aO=>exact (kr x.out));(case aS=>exact (ar (kw HB.out)));(case aL=>have:=LMc24.out;omega);intro b4 r3 ho hb hg hat;rw [← Ny749.out] at ho;replace s:=ka (Kd.N_afterv (ok:=(fun l=>l≠u∧l≠q∧l≠D)) (by (with_reducible repeat (first|apply ah|apply ai|apply aj));exact bc s.out (fun _ hk=>⟨⟨hk.1.2.1,⟨hk.1.2.2,hk.2⟩⟩,hk.1.1⟩)) hg hat);replace d:=ka (aV (ok:=(fun l=>some l≠(u8 : Value).ownBlock∧l≠u∧l≠q∧l≠D)) (kv (ag d.out (fun _ hk=>⟨⟨hk.1.2.1,⟨hk.1.2.2.1,⟨hk.1.2.2.2,hk.2⟩⟩⟩,hk.1.1⟩))) hg hat);replace m:=ka (bp (g:=u) (kz m.out) hg (bJ x.out m.out (by decide)));replace B:=ka (aV (ok:=(fun l=>some l≠(u8 : Value).ownBlock∧l≠u∧l≠q∧l≠D)) (kv (ag B.out (fun _ hk=>⟨⟨hk.1.2.1,⟨hk.1.2.2.1,⟨hk.1.2.2.2,hk.2⟩⟩⟩,hk.1.1⟩))) hg hat);replace E:=ka (aV (ok:=(fun l=>some l≠(u8 : Value).ownBlock∧l≠u∧l≠q∧l≠D)) (kv (ag E.out (fun _ hk=>⟨⟨hk.1.2.1,⟨hk.1.2.2.1,⟨hk.1.2.2.2,hk.2⟩⟩⟩,hk.1.1⟩))) hg hat);replace I:=ka (aV (ok:=(fun l=>some l≠(u8 : Value).ownBlock∧l≠u∧l≠q∧l≠D)) (kv (ag I.out (fun _ hk=>⟨⟨hk.1.2.1,⟨hk.1.2.2.1,⟨hk.1.2.2.2,hk.2⟩⟩⟩,hk.1.1⟩))) hg hat);replace y:=ka (bp (g:=q) (kz y.out) hg (bJ x.out y.out (by decide)));replace U:=ka (aV (ok:=(fun l=>some l≠(u8 : Value).ownBlock∧l≠u∧l≠q∧l≠D)) (kv (ag U.out (fun _ hk=>⟨⟨hk.1.2.1,⟨hk.1.2.2.1,⟨hk.1.2.2.2,hk.2⟩⟩⟩,hk.1.1⟩))) hg hat);replace J:=ka (bp (g:=D) (kz J.out) hg (bJ x.out J.out (by decide)));replace HB:=ka (hb);have a5:=ka (ho);clear x;clear ho hb hg hat))
          replace s:=ka (aj s.out);replace d:=ka (bi d.out);replace B:=ka (bi B.out);replace E:=ka (bi E.out);replace I:=ka (bi I.out);replace U:=ka (bi U.out);replace a5:=ka (bf a5.out);replace m:=ka (bq m.out);replace y:=ka (bq y.out);replace J:=ka (bq J.out);replace HB:=ka (bn HB.out);refine bI (n:=10) (S:=fun w'=>w'.cell? ⟨q,0,none⟩ = some (.slice a2 L.length a3)∧w'.cell? ⟨q,1,none⟩ = some (.bool O)∧w'.cell? ⟨D,0,none⟩ = some (.slice c7 a6.length b7)∧w'.cell? ⟨D,1,none⟩ = some (.bool a9)∧w'.cell? ⟨u,0,none⟩ = some (.slice g9 A.length h0)∧w'.cell? ⟨u,1,none⟩ = some (.bool z)) (ds:=[]) #[ab,ab,ab,ab,ab,ab,ab,ab,ab,ab] (by kernel_rfl) rfl rfl ⟨(ao y.out 0).trans rfl,(ao y.out 1).trans rfl,(ao J.out 0).trans rfl,(ao J.out 1).trans rfl,(ao m.out 0).trans rfl,(ao m.out 1).trans rfl⟩ (fun hHeld=>?_);refine br trivetref03_Shares.tab16 trivetref03_Shares.bits16 (fun HT_ HW_=>?_);generalize r3.drew = y0 at s d B E I U a5 m y J HB hHeld ⊢;refine ap (i:=0) (N:=some 59) (v:=?_) (a':=?_) #[aa,ab,ab,ab,ab,ab,ab,ab,ab,ab] rfl rfl (am HT_.out (by kernel_rfl)) (fun _ _ _ h=>h) (Or.inl ⟨by rfl,?_⟩) ?_ ?_;rotate_left
          ·intro w';go_simp
           with_reducible rfl
          rotate_left
          ·simp only [Act.put,ac,ad,ae,ak,al]
           rfl
          refine take_ (i:=1) (N:=some 60) (v:=?_) (a':=?_) #[aa,aa,ab,ab,ab,ab,ab,ab,ab,ab] rfl rfl (be HT_.out HW_.out (by kernel_rfl)) (fun _ _ _ h=>h) (Or.inl ⟨by rfl,?_⟩) hHeld ?_ ?_;rotate_left
          ·rintro w' ⟨s0,s1,s2,s3,s4,s5⟩;go_simp
           with_reducible rfl
          rotate_left
          ·simp only [Act.put,ac,ad,ae,ak,al]
           rfl
          refine take_ (i:=2) (N:=some 61) (v:=?_) (a':=?_) #[aa,aa,aa,ab,ab,ab,ab,ab,ab,ab] rfl rfl (be HT_.out HW_.out (by kernel_rfl)) (fun _ _ _ h=>h) (Or.inl ⟨by rfl,?_⟩) hHeld ?_ ?_;rotate_left
          ·rintro w' ⟨s0,s1,s2,s3,s4,s5⟩;go_simp
           with_reducible rfl
          rotate_left
          ·simp only [Act.put,ac,ad,ae,ak,al]
           rfl
          refine take_ (i:=3) (N:=some 62) (v:=?_) (a':=?_) #[aa,aa,aa,aa,ab,ab,ab,ab,ab,ab] rfl rfl (be HT_.out HW_.out (by kernel_rfl)) (fun _ _ _ h=>h) (Or.inl ⟨by rfl,?_⟩) hHeld ?_ ?_;rotate_left
          ·rintro w' ⟨s0,s1,s2,s3,s4,s5⟩;go_simp
           with_reducible rfl
          rotate_left
          ·simp only [Act.put,ac,ad,ae,ak,al]
           rfl
          refine bE (i:=4) (N:=some 63) #[aa,aa,aa,aa,aa,ab,ab,ab,ab,ab] rfl rfl (bj HT_.out (by kernel_rfl)) (by decide) (fun K hK=>?_);refine bt Try.func25 (by kernel_rfl) rfl #[.agg #[.slice c7 a6.length b7,.bool a9],.agg #[.slice g9 A.length h0,.bool z]] (by rfl) rfl rfl (by (try simp only [au,aI,aN]);first|done|rfl|(simp only [av,aw];rfl)) ?_;with_reducible refine (bd k2 _ _ a6 a9 _ _ A z g4 g5 _ ?side1 ?side2 ?side3 ?side4 q9.out).mono ?_
          (case side1=>repeat (first|exact (an U.out).2.2|with_reducible first|refine ax ?_ _|refine ay ?_ _|refine aH ?_));(case side2=>exact (an U.out).2.1);(case side3=>repeat (first|exact (an d.out).2.2|with_reducible first|refine ax ?_ _|refine ay ?_ _|refine aH ?_));(case side4=>exact (an d.out).2.1);rintro e y1 ⟨t7,rfl,ho0,hb⟩;refine ⟨_,rfl,?_⟩;replace d:=kvb d hb;replace B:=kvb B hb;replace E:=kvb E hb;replace I:=kvb I hb;replace U:=kvb U hb;have d1:=ka (ba (ag (ok':=fun l=>some l≠(u8 : Value).ownBlock∧some l≠(b4 : Value).ownBlock∧l≠u∧l≠q∧l≠D) ho0 (fun l F=>⟨(aG (bm (by (with_reducible repeat (first|apply ah|apply ai|apply aj));exact s.out)) l F),(aG (bl (kr a5.out)) l F),(kf m F),(kf y F),(kf J F)⟩)) (ar (kw HB.out)));replace s:=ka (aJ (by (with_reducible repeat (first|apply ah|apply ai|apply aj));exact s.out) hb);replace a5:=ka (aD (kr a5.out) hb);replace m:=kbb m hb;replace y:=kbb y hb;replace J:=kbb J hb;replace HB:=ka (az (kw HB.out) hb);(try clear hb ho0);obtain ⟨p3,p4,l8⟩:=aT d1.out;(first|subst l8|(injection l8 with f1_ f2_ f3_;have f4_:=f1_.symm;have f5_:=f3_.symm;clear f1_ f2_ f3_;subst f4_;subst f5_));refine hK.out _ _ ⟨(ao y.out 0).trans rfl,(ao y.out 1).trans rfl,(ao J.out 0).trans rfl,(ao J.out 1).trans rfl,(ao m.out 0).trans rfl,(ao m.out 1).trans rfl⟩ (fun hHeld=>?_);clear hK K;refine bh (a':=?_) ?_ ?_;rotate_left
          ·show Act.put _ (some 63) _ = _
           simp only [Act.put,ac,ad,ae,ak,al]
           rfl
          refine bE (i:=5) (N:=some 64) #[aa,aa,aa,aa,aa,aa,ab,ab,ab,ab] rfl rfl (bj HT_.out (by kernel_rfl)) (by decide) (fun K hK=>?_);refine bt Try.func28 (by kernel_rfl) rfl #[.agg #[.slice p3 g4.length p4,.bool g5]] (by rfl) rfl rfl (by (try simp only [au,aI,aN]);first|done|rfl|(simp only [av,aw];rfl)) ?_;with_reducible refine (trivetref01_Neg.calls k2 (fun l=>(some l≠(u8 : Value).ownBlock∧(some l≠(b4 : Value).ownBlock∧(l≠u∧(l≠q∧l≠D))))) _ _ g4 g5 g6 g7 _ ?side1 r0.out).mono ?_
          (case side1=>exact d1.out);rintro e y2 ⟨t8,rfl,ho0,hb⟩;refine ⟨_,rfl,?_⟩;replace d:=kvb d hb;replace B:=kvb B hb;replace E:=kvb E hb;replace I:=kvb I hb;replace U:=kvb U hb;replace d1:=kvb d1 hb;have d3:=ka (ba (ag (ok':=fun l=>some l≠(u8 : Value).ownBlock∧some l≠(b4 : Value).ownBlock∧l≠u∧l≠q∧l≠D) ho0 (fun l F=>⟨Or.elim F (fun Z=>Z.1) (fun b9=>(aG (bm (by (with_reducible repeat (first|apply ah|apply ai|apply aj));exact s.out)) l b9)),Or.elim F (fun Z=>Z.2.1) (fun b9=>(aG (bl (kr a5.out)) l b9)),Or.elim F (fun Z=>Z.2.2.1) (fun b9=>(kf m b9)),Or.elim F (fun Z=>Z.2.2.2.1) (fun b9=>(kf y b9)),Or.elim F (fun Z=>Z.2.2.2.2) (fun b9=>(kf J b9))⟩)) (ar (kw HB.out)));replace s:=ka (aJ (by (with_reducible repeat (first|apply ah|apply ai|apply aj));exact s.out) hb);replace a5:=ka (aD (kr a5.out) hb);replace m:=kbb m hb;replace y:=kbb y hb;replace J:=kbb J hb;replace HB:=ka (az (kw HB.out) hb);(try clear hb ho0);obtain ⟨p5,p8,l9⟩:=aT d3.out;(first|subst l9|(injection l9 with f1_ f2_ f3_;have f4_:=f1_.symm;have f5_:=f3_.symm;clear f1_ f2_ f3_;subst f4_;subst f5_));refine hK.out _ _ ⟨(ao y.out 0).trans rfl,(ao y.out 1).trans rfl,(ao J.out 0).trans rfl,(ao J.out 1).trans rfl,(ao m.out 0).trans rfl,(ao m.out 1).trans rfl⟩ (fun hHeld=>?_);clear hK K;refine bh (a':=?_) ?_ ?_;rotate_left
          ·show Act.put _ (some 64) _ = _
           simp only [Act.put,ac,ad,ae,ak,al]
           rfl
          refine bE (i:=6) (N:=some 65) #[aa,aa,aa,aa,aa,aa,aa,ab,ab,ab] rfl rfl (bj HT_.out (by kernel_rfl)) (by decide) (fun K hK=>?_);refine bt Try.func23 (by kernel_rfl) rfl #[.agg #[.slice a2 L.length a3,.bool O],.agg #[.slice p5 g6.length p8,.bool g7]] (by rfl) rfl rfl (by (try simp only [au,aI,aN]);first|done|rfl|(simp only [av,aw];rfl)) ?_;with_reducible refine (bB k2 _ _ L O _ _ g6 g7 e6 e7 _ ?side1 ?side2 ?side3 ?side4 r1.out).mono ?_
          (case side1=>repeat (first|exact (an I.out).2.2|with_reducible first|refine ax ?_ _|refine ay ?_ _|refine aH ?_));(case side2=>exact (an I.out).2.1);(case side3=>repeat (first|exact (an d3.out).2.2|with_reducible first|refine ax ?_ _|refine ay ?_ _|refine aH ?_));(case side4=>exact (an d3.out).2.1);rintro e y3 ⟨t9,rfl,ho0,hb⟩;refine ⟨_,rfl,?_⟩;replace d:=kvb d hb;replace B:=kvb B hb;replace E:=kvb E hb;replace I:=kvb I hb;replace U:=kvb U hb;replace d1:=kvb d1 hb;replace d3:=kvb d3 hb;have e5:=ka (ba (ag (ok':=fun l=>some l≠(u8 : Value).ownBlock∧some l≠(b4 : Value).ownBlock∧l≠u∧l≠q∧l≠D) ho0 (fun l F=>⟨(aG (bm (by (with_reducible repeat (first|apply ah|apply ai|apply aj));exact s.out)) l F),(aG (bl (kr a5.out)) l F),(kf m F),(kf y F),(kf J F)⟩)) (ar (kw HB.out)));replace s:=ka (aJ (by (with_reducible repeat (first|apply ah|apply ai|apply aj));exact s.out) hb);replace a5:=ka (aD (kr a5.out) hb);replace m:=kbb m hb;replace y:=kbb y hb;replace J:=kbb J hb;replace HB:=ka (az (kw HB.out) hb);(try clear hb ho0);obtain ⟨p9,q0,m0⟩:=aT e5.out;(first|subst m0|(injection m0 with f1_ f2_ f3_;have f4_:=f1_.symm;have f5_:=f3_.symm;clear f1_ f2_ f3_;subst f4_;subst f5_));refine hK.out _ _ ⟨(ao y.out 0).trans rfl,(ao y.out 1).trans rfl,(ao J.out 0).trans rfl,(ao J.out 1).trans rfl,(ao m.out 0).trans rfl,(ao m.out 1).trans rfl⟩ (fun hHeld=>?_);clear hK K;refine bh (a':=?_) ?_ ?_;rotate_left
          ·show Act.put _ (some 65) _ = _
           simp only [Act.put,ac,ad,ae,ak,al]
           rfl
          refine bE (i:=7) (N:=some 66) #[aa,aa,aa,aa,aa,aa,aa,aa,ab,ab] rfl rfl (bj HT_.out (by kernel_rfl)) (by decide) (fun K hK=>?_);refine value_ (w1:=?_) (v:=?_) (by rfl) rfl ?_ ?_;rotate_left 2
          ·go_simp
           constructor
           ·rfl
           ·rfl
          refine hK.out _ _ ⟨(ao (bx y.out _) 0).trans rfl,(ao (bx y.out _) 1).trans rfl,(ao (bx J.out _) 0).trans rfl,(ao (bx J.out _) 1).trans rfl,(ao (bx m.out _) 0).trans rfl,(ao (bx m.out _) 1).trans rfl⟩ (fun hHeld=>?_);clear hK K;refine bh (a':=?_) ?_ ?_;rotate_left
          ·show Act.put _ (some 66) _ = _
           simp only [Act.put,ac,ad,ae,ak,al]
           rfl
          refine bE (i:=8) (N:=some 67) #[aa,aa,aa,aa,aa,aa,aa,aa,aa,ab] rfl rfl (bj HT_.out (by kernel_rfl)) (by decide) (fun K hK=>?_);refine Kd.N_append_step k51 (w0:=w) w.heap.size (by rfl) (.tmp 59) (.tmp 66) 54 51 (.agg #[(.slice none 0 0),(.bool false)]) 32 rfl Try.underlying54 info51 rfl (by decide) (by omega) u8 x8_2 (⟨e6,e7⟩ : S51) [.slice p9 e6.length q0,.bool e7] (fun l=>some l≠(b4 : Value).ownBlock∧l≠u∧l≠q∧l≠D) (fun l=>((fun l=>some l≠(b4 : Value).ownBlock∧l≠u∧l≠q∧l≠D)) l∧some l≠(u8 : Value).ownBlock) rfl rfl ?aP (fun _ hk=>hk) ?aF ?aO ?aB ?aS ?aL ?_;(case aP=>exact (k51_mkF _ _ (⟨e6,e7⟩ : S51) (an (ag (ok':=(fun l=>((fun l=>some l≠(b4 : Value).ownBlock∧l≠u∧l≠q∧l≠D)) l∧some l≠(u8 : Value).ownBlock)) (e5.out) (fun l hk=>⟨⟨hk.2.1,⟨hk.2.2.1,⟨hk.2.2.2.1,hk.2.2.2.2⟩⟩⟩,hk.1⟩))).2.1 (Kd.V_F (ag (ok':=(fun l=>((fun l=>some l≠(b4 : Value).ownBlock∧l≠u∧l≠q∧l≠D)) l∧some l≠(u8 : Value).ownBlock)) (e5.out) (fun l hk=>⟨⟨hk.2.1,⟨hk.2.2.1,⟨hk.2.2.2.1,hk.2.2.2.2⟩⟩⟩,hk.1⟩)))));(case aB=>exact (kw HB.out));(case aF=>exact (fun l hk=>⟨aG (bl (kr a5.out)) l hk,Kd.freshB (g:=u) (kz m.out) l hk,Kd.freshB (g:=q) (kz y.out) l hk,Kd.freshB (g:=D) (kz J.out) l hk⟩));(case aO=>exact (by (with_reducible repeat (first|apply ah|apply ai|apply aj));exact bc s.out (fun _ hk=>⟨hk.2,⟨hk.1.1,⟨hk.1.2.1,hk.1.2.2⟩⟩⟩)));(case aS=>exact (ar (kw HB.out)));(case aL=>have:=LMc28.out;omega);intro u0 y4 ho hb hg hat;rw [← Ny764.out] at ho
          replace d:=ka (aV (ok:=(fun l=>some l≠(b4 : Value).ownBlock∧l≠u∧l≠q∧l≠D)) (kv (ag d.out (fun _ hk=>⟨⟨hk.2,⟨hk.1.2.1,⟨hk.1.2.2.1,hk.1.2.2.2⟩⟩⟩,hk.1.1⟩))) hg hat);replace m:=ka (bp (g:=u) (kz m.out) hg (Kd.N_away s.out (fun _ hk=>hk.1.1)));replace B:=ka (aV (ok:=(fun l=>some l≠(b4 : Value).ownBlock∧l≠u∧l≠q∧l≠D)) (kv (ag B.out (fun _ hk=>⟨⟨hk.2,⟨hk.1.2.1,⟨hk.1.2.2.1,hk.1.2.2.2⟩⟩⟩,hk.1.1⟩))) hg hat);replace E:=ka (aV (ok:=(fun l=>some l≠(b4 : Value).ownBlock∧l≠u∧l≠q∧l≠D)) (kv (ag E.out (fun _ hk=>⟨⟨hk.2,⟨hk.1.2.1,⟨hk.1.2.2.1,hk.1.2.2.2⟩⟩⟩,hk.1.1⟩))) hg hat);replace I:=ka (aV (ok:=(fun l=>some l≠(b4 : Value).ownBlock∧l≠u∧l≠q∧l≠D)) (kv (ag I.out (fun _ hk=>⟨⟨hk.2,⟨hk.1.2.1,⟨hk.1.2.2.1,hk.1.2.2.2⟩⟩⟩,hk.1.1⟩))) hg hat);replace y:=ka (bp (g:=q) (kz y.out) hg (Kd.N_away s.out (fun _ hk=>hk.1.2.1)));replace U:=ka (aV (ok:=(fun l=>some l≠(b4 : Value).ownBlock∧l≠u∧l≠q∧l≠D)) (kv (ag U.out (fun _ hk=>⟨⟨hk.2,⟨hk.1.2.1,⟨hk.1.2.2.1,hk.1.2.2.2⟩⟩⟩,hk.1.1⟩))) hg hat);replace J:=ka (bp (g:=D) (kz J.out) hg (Kd.N_away s.out (fun _ hk=>hk.1.2.2)));replace a5:=ka (Kd.R_over' (kr a5.out) (Kd.N_typed (by (with_reducible repeat (first|apply ah|apply ai|apply aj));exact s.out)) (by decide) hg);replace d1:=ka (aV (ok:=(fun l=>some l≠(b4 : Value).ownBlock∧l≠u∧l≠q∧l≠D)) (kv (ag d1.out (fun _ hk=>⟨⟨hk.2.1,⟨hk.2.2.1,⟨hk.2.2.2.1,hk.2.2.2.2⟩⟩⟩,hk.1⟩))) hg hat);replace d3:=ka (aV (ok:=(fun l=>some l≠(b4 : Value).ownBlock∧l≠u∧l≠q∧l≠D)) (kv (ag d3.out (fun _ hk=>⟨⟨hk.2.1,⟨hk.2.2.1,⟨hk.2.2.2.1,hk.2.2.2.2⟩⟩⟩,hk.1⟩))) hg hat);replace e5:=ka (aV (ok:=(fun l=>some l≠(b4 : Value).ownBlock∧l≠u∧l≠q∧l≠D)) (kv (ag e5.out (fun _ hk=>⟨⟨hk.2.1,⟨hk.2.2.1,⟨hk.2.2.2.1,hk.2.2.2.2⟩⟩⟩,hk.1⟩))) hg hat);replace HB:=ka (hb);have n5:=ka (ho);clear s;clear ho hb hg hat;refine hK.out _ _ ⟨(ao y.out 0).trans rfl,(ao y.out 1).trans rfl,(ao J.out 0).trans rfl,(ao J.out 1).trans rfl,(ao m.out 0).trans rfl,(ao m.out 1).trans rfl⟩ (fun hHeld=>?_);clear hK K;refine bh (a':=?_) ?_ ?_;rotate_left
          ·show Act.put _ (some 67) _ = _
           simp only [Act.put,ac,ad,ae,ak,al]
           rfl
          refine ap (i:=9) (N:=some 8) (v:=?_) (a':=?_) #[aa,aa,aa,aa,aa,aa,aa,aa,aa,aa] rfl rfl (am HT_.out (by kernel_rfl)) (fun _ _ _ h=>h) (Or.inl ⟨by rfl,?_⟩) ?_ ?_;rotate_left
          ·intro w';go_simp
           with_reducible rfl
          rotate_left
          ·simp only [Act.put,ac,ad,ae,ak,al]
           rfl
          refine done_ (bC HT_.out (by kernel_rfl)) ?_;try go_wp2
          go_roundg k2
          case measure=>have:=HK1.out;have:=HK2.out;omega
          case rel=>exact ⟨(y749),(y764),(wrap64 (x9_2 - c3)),(wrap64 (x10_2 + 1)),(by first|rfl|(simp;done)|(simp [*];done)),(by first|rfl|(simp;done)|(simp [*];done)),H',⟨by have:=HK1.out;have:=HK2.out;omega⟩,⟨kr a5.out⟩,⟨by (with_reducible repeat (first|apply ah|apply ai|apply aj));exact bc n5.out (fun _ hk=>⟨hk.1,hk.2.1⟩)⟩,⟨kv (ag d.out (fun _ hk=>⟨hk.1.1,⟨hk.2,hk.1.2.1⟩⟩))⟩,⟨by (with_reducible repeat (first|apply kb1|apply kb2|apply kb3));exact m.out⟩,⟨by repeat (first|(with_reducible first|exact HB.out|apply kc1|apply kc2|apply kc3|refine kc4 ?_ b2.out|refine kc4 ?_ b8.out|refine kc4 ?_ n4.out)|exact HB.out)⟩⟩
         ·rw [if_neg c28] at H
          exact absurd H (by simp)
        ·rw [if_neg c24] at H
         exact absurd H (by simp)
       ·rw [if_neg c19] at H
        exact absurd H (by simp)
      ·rw [if_neg c17] at H
       have c17b0 : decide (x10_2 < (l1.length : Int)) = false:=decide_eq_false c17;clear c17;by_cases c61 : 0≤(l1.length : Int)
       ·rw [if_pos c61] at H
        have c61b0:=eq_true c61;have c61b1 : decide (0≤(l1.length : Int)) = true:=decide_eq_true c61;clear c61;by_cases c62 : ((l1.length : Int) : Int).toNat≤281474976710656
        ·rw [if_pos c62] at H
         have c62b0:=eq_true c62;have c62b1 : decide (((l1.length : Int) : Int).toNat≤281474976710656) = true:=decide_eq_true c62;clear c62;obtain ⟨y767,hy767⟩ : ∃ y_ : List Bool,y_ = (List.replicate ((l1.length : Int) : Int).toNat false):=⟨_,rfl⟩
         replace H : (trivetref03_Shares.l2 k2 l1 x7_2 x8_2 x9_2 y767) = some r:=by first|(rw [hy767];with_reducible exact H)|(have H2_:=(aR _ _).symm.trans H;rw [hy767];with_reducible exact H2_)|(have H2_:=(aR _ _).symm.trans H;with_reducible exact H2_)|with_reducible exact H|(rw [hy767];exact H)|exact H
         have Ny767:=ka hy767;clear hy767;have H':=ka H;clear H;go_wp2_with (first|((with_reducible refine gate_dst (N:=73) rfl ?_);refine Kd.R_make Kd.bool _ 4 rfl (N:=73) rfl 58 _ _ rfl (l1.length : Int) rfl rfl Try.underlying58 (.bool false) 1 info4 rfl (by decide) (by omega) false (ok:=fun _=>True) (okp:=fun _=>True) rfl (fun _ hk=>hk) trivial (of_decide_eq_true (by first|(with_reducible assumption)|assumption)) (Nat.le_trans (Nat.mul_le_mul_right _ (of_decide_eq_true (by first|(with_reducible assumption)|assumption) : (l1.length : Int).toNat≤281474976710656)) (by omega)) (Below.refl _ _) (bu _) ?_;intro e8 y5 ho64 hb hg_ hnew_;clear hg_ hnew_;(first|rw [← Ny767.out] at ho64|(simp only [Int.reduceToNat] at ho64;rw [← Ny767.out] at ho64));replace x:=ka (aD (kr x.out) hb);replace s:=ka (Kd.N_elder' (by (with_reducible repeat (first|apply ah|apply ai|apply aj));exact s.out) (Kd.R_base ho64) hb);replace d:=ka (Kd.V_elder' (kv d.out) (Kd.R_base ho64) hb);have n6:=ka (Kd.R_lower ho64 (ar (kw HB.out)));replace m:=kbb m hb;replace HB:=ka (az (kw HB.out) hb);clear hb ho64))
         (try simp only [Act.put,ac,ad,ae]);go_loopg [9] k2 (fun kq v9 w'=>∃ (x7_3 : List Int) (x9_3 : Int) (x15_3 : List Bool),v9 = .int .i64 x9_3∧aA (trivetref03_Shares.l2 kq l1 x7_3 x8_2 x9_3 x15_3 = some r)∧aA (kq≤k2)∧aA (bK (aZ .i64) 2 w' w.heap.size (fun _=>True) u7 x7_3)∧aA (Kd.N k51 51 w' w.heap.size (fun l=>some l≠(u7 : Value).ownBlock∧some l≠(e8 : Value).ownBlock∧l≠u) u8 x8_2)∧aA (bK Kd.bool 4 w' w.heap.size (fun _=>True) e8 x15_3)∧aA (bz (aZ .u64) 60 w' w.heap.size (fun l=>some l≠(u7 : Value).ownBlock∧some l≠(u8 : Value).ownBlock∧some l≠(e8 : Value).ownBlock∧l≠u) W A)∧aA (w'.heap[u]? = some (.cells #[W,.bool z] 51 (0,0)))∧aA (Below w.heap.size w w'))
         case atStart=>exact ⟨(x7_2),(x9_2),(y767),(by first|rfl|(simp;done)|(simp [*];done)),H',⟨bu _⟩,⟨kr x.out⟩,⟨by (with_reducible repeat (first|apply ah|apply ai|apply aj));exact bc s.out (fun _ hk=>⟨hk.1.1,⟨hk.2,hk.1.2⟩⟩)⟩,⟨kr n6.out⟩,⟨kv (ag d.out (fun _ hk=>⟨hk.1.1,⟨hk.1.2.1,⟨hk.2,hk.1.2.2⟩⟩⟩))⟩,⟨by (with_reducible repeat (first|apply kb1|apply kb2|apply kb3));exact m.out⟩,⟨by repeat (first|(with_reducible first|exact HB.out|apply kc1|apply kc2|apply kc3|refine kc4 ?_ b2.out)|exact HB.out)⟩⟩
         case round=>
          clear H';try clear c1
          try clear c17
          try clear c17b0
          try clear c61
          try clear c61b0
          try clear c61b1
          try clear c62
          try clear c62b0
          try clear c62b1
          obtain ⟨x7_3,x9_3,x15_3,rfl,HA,HK3,x,s,G,d,m,HB⟩:=hrel;cases gk with
          | zero=>exact absurd HA.out (by simp [trivetref03_Shares.l2])
          | succ k3=>
           have H:=HA.out;clear HA;simp only [trivetref03_Shares.l2] at H
           by_cases c65 : x9_3 > 0
           ·rw [if_pos c65] at H
            have c65b0 : decide (0 < x9_3) = true:=decide_eq_true c65;clear c65;have H':=ka H;clear H;go_wp2
            (try simp only [Act.put,ac,ad,ae]);go_loopg [16,17] k3 (fun kq r4 r5 w'=>∃ (x16_4 : Int) (x17_4 : Int),r4 = .int .i64 x16_4∧r5 = .int .i64 x17_4∧aA (trivetref03_Shares.l3 kq l1 x7_3 x8_2 x9_3 x15_3 x16_4 x17_4 = some r)∧aA (kq≤k3)∧aA (bK (aZ .i64) 2 w' w.heap.size (fun _=>True) u7 x7_3)∧aA (Kd.N k51 51 w' w.heap.size (fun l=>some l≠(u7 : Value).ownBlock∧some l≠(e8 : Value).ownBlock∧l≠u) u8 x8_2)∧aA (bK Kd.bool 4 w' w.heap.size (fun _=>True) e8 x15_3)∧aA (bz (aZ .u64) 60 w' w.heap.size (fun l=>some l≠(u7 : Value).ownBlock∧some l≠(u8 : Value).ownBlock∧some l≠(e8 : Value).ownBlock∧l≠u) W A)∧aA (w'.heap[u]? = some (.cells #[W,.bool z] 51 (0,0)))∧aA (Below w.heap.size w w'))
            case atStart=>exact ⟨((-1)),(0),(by first|rfl|(simp;done)|(simp [*];done)),(by first|rfl|(simp;done)|(simp [*];done)),H',⟨bu _⟩,⟨kr x.out⟩,⟨by (with_reducible repeat (first|apply ah|apply ai|apply aj));exact s.out⟩,⟨kr G.out⟩,⟨kv d.out⟩,⟨by (with_reducible repeat (first|apply kb1|apply kb2|apply kb3));exact m.out⟩,⟨by repeat (first|(with_reducible first|exact HB.out|apply kc1|apply kc2|apply kc3|refine kc4 ?_ b2.out)|exact HB.out)⟩⟩
            case round=>
             clear H';try clear c1
             try clear c17
             try clear c17b0
             try clear c61
             try clear c61b0
             try clear c61b1
             try clear c62
             try clear c62b0
             try clear c62b1
             try clear c65
             try clear c65b0
             obtain ⟨x16_4,x17_4,rfl,rfl,HA,HK4,x,s,G,d,m,HB⟩:=hrel;cases gk with
             | zero=>exact absurd HA.out (by simp [trivetref03_Shares.l3])
             | succ k4=>
              have H:=HA.out;clear HA;simp only [trivetref03_Shares.l3] at H
              by_cases c66 : x17_4 < (l1.length : Int)
              ·rw [if_pos c66] at H
               have c66b0 : decide (x17_4 < (l1.length : Int)) = true:=decide_eq_true c66;clear c66;by_cases c67 : 0≤x17_4
               ·rw [if_pos c67] at H
                have c67b0 : decide (0≤x17_4) = true:=decide_eq_true c67;clear c67;by_cases c68 : x17_4 < (x15_3.length : Int)
                ·rw [if_pos c68] at H
                 have c68b0 : decide (x17_4 < (x15_3.length : Int)) = true:=decide_eq_true c68;clear c68;obtain ⟨bq69,hbq69⟩ : ∃ b_ : Bool,b_ = (rdOf false x15_3 x17_4):=⟨_,rfl⟩
                 replace H : (if bq69 = true then (trivetref03_Shares.l3 k4 l1 x7_3 x8_2 x9_3 x15_3 x16_4 (wrap64 (x17_4 + 1))) else (if x16_4 < 0 then (trivetref03_Shares.l3 k4 l1 x7_3 x8_2 x9_3 x15_3 x17_4 (wrap64 (x17_4 + 1))) else (if x17_4 < (x8_2.length : Int) then (if 0≤x16_4 then (if x16_4 < (x8_2.length : Int) then ((trivetref01_Cmp.f k4 ((aM x8_2 x17_4).f0) ((aM x8_2 x17_4).f1) ((aM x8_2 x16_4).f0) ((aM x8_2 x16_4).f1)).bind fun c0=>(if c0 > 0 then (trivetref03_Shares.l3 k4 l1 x7_3 x8_2 x9_3 x15_3 x17_4 (wrap64 (x17_4 + 1))) else (trivetref03_Shares.l3 k4 l1 x7_3 x8_2 x9_3 x15_3 x16_4 (wrap64 (x17_4 + 1))))) else (none)) else (none)) else (none)))) = some r:=by rw [← hbq69] at H;exact H
                 have Nbq69:=ka hbq69;clear hbq69;by_cases c70 : bq69 = true
                 ·subst c70;have H1 : (trivetref03_Shares.l3 k4 l1 x7_3 x8_2 x9_3 x15_3 x16_4 (wrap64 (x17_4 + 1))) = some r:=by rw [if_pos rfl] at H;exact H
                  clear H;have H:=H1;clear H1;have H':=ka H;clear H;try go_wp2
                  replace x:=ka (bf x.out);replace s:=ka (aj s.out);replace G:=ka (bf G.out);replace d:=ka (bi d.out);replace m:=ka (bq m.out);replace HB:=ka (bn HB.out);obtain ⟨u1,u2,m1⟩:=bA G.out;(first|subst m1|(injection m1 with f1_ f2_ f3_;have f4_:=f1_.symm;have f5_:=f3_.symm;clear f1_ f2_ f3_;subst f4_;subst f5_));have p770 : 0≤(x17_4 : Int):=of_decide_eq_true (by first|(with_reducible assumption)|assumption);have q770 : x17_4 < (x15_3.length : Int):=of_decide_eq_true (by first|(with_reducible assumption)|assumption);obtain ⟨ad770,e770,hx770_0⟩:=bG (bw G.out).2.2 x17_4 p770 q770;(try rw [← Nbq69.out] at hx770_0);cases e770
                  replace p770:=eq_true p770;replace q770:=eq_true q770;refine bI (n:=21) (S:=fun w'=>w'.cell? (ad770.add (x17_4).toNat) = some (.bool true)) (ds:=[]) #[ab,ab,ab,ab,ab,ab,ab,ab,ab,ab,ab,ab,ab,ab,ab,ab,ab,ab,ab,ab,ab] (by kernel_rfl) rfl rfl (hx770_0) (fun hHeld=>?_);refine br trivetref03_Shares.tab24 trivetref03_Shares.bits24 (fun HT_ HW_=>?_);generalize wr.drew = y6 at x s G d m HB hx770_0 hHeld ⊢;refine ap (i:=0) (N:=some 82) (v:=?_) (a':=?_) #[aa,ab,ab,ab,ab,ab,ab,ab,ab,ab,ab,ab,ab,ab,ab,ab,ab,ab,ab,ab,ab] rfl rfl (am HT_.out (by kernel_rfl)) (fun _ _ _ h=>h) (Or.inl ⟨by rfl,?_⟩) ?_ ?_;rotate_left
                  ·intro w';go_simp
                   with_reducible rfl
                  rotate_left
                  ·simp only [Act.put,ac,ad,ae,ak,al]
                   rfl
                  refine ap (i:=1) (N:=some 83) (v:=?_) (a':=?_) #[aa,aa,ab,ab,ab,ab,ab,ab,ab,ab,ab,ab,ab,ab,ab,ab,ab,ab,ab,ab,ab] rfl rfl (am HT_.out (by kernel_rfl)) (fun _ _ _ h=>h) (Or.inl ⟨by rfl,?_⟩) ?_ ?_;rotate_left
                  ·intro w';go_simp
                   with_reducible rfl
                  rotate_left
                  ·simp only [Act.put,ac,ad,ae,ak,al]
                   rfl
                  refine ap (i:=2) (N:=some 84) (v:=?_) (a':=?_) #[aa,aa,aa,ab,ab,ab,ab,ab,ab,ab,ab,ab,ab,ab,ab,ab,ab,ab,ab,ab,ab] rfl rfl (am HT_.out (by kernel_rfl)) (fun _ _ _ h=>h) (Or.inl ⟨by rfl,?_⟩) ?_ ?_;rotate_left
                  ·intro w';go_simp
                   with_reducible rfl
                  rotate_left
                  ·simp only [Act.put,ac,ad,ae,ak,al]
                   rfl
                  refine take_ (i:=3) (N:=some 85) (v:=?_) (a':=?_) #[aa,aa,aa,aa,ab,ab,ab,ab,ab,ab,ab,ab,ab,ab,ab,ab,ab,ab,ab,ab,ab] rfl rfl (be HT_.out HW_.out (by kernel_rfl)) (fun _ _ _ h=>h) (Or.inl ⟨by rfl,?_⟩) hHeld ?_ ?_;rotate_left
                  ·intro w' s0;go_simp
                   with_reducible rfl
                  rotate_left
                  ·simp only [Act.put,ac,ad,ae,ak,al]
                   rfl
                  refine ap (i:=4) (N:=some 86) (v:=?_) (a':=?_) #[aa,aa,aa,aa,aa,ab,ab,ab,ab,ab,ab,ab,ab,ab,ab,ab,ab,ab,ab,ab,ab] rfl rfl (am HT_.out (by kernel_rfl)) (fun _ _ _ h=>h) (Or.inl ⟨by rfl,?_⟩) ?_ ?_;rotate_left
                  ·intro w';go_simp
                   with_reducible rfl
                  rotate_left
                  ·simp only [Act.put,ac,ad,ae,ak,al]
                   rfl
                  refine ap (i:=5) (N:=some 87) (v:=?_) (a':=?_) #[aa,aa,aa,aa,aa,aa,ab,ab,ab,ab,ab,ab,ab,ab,ab,ab,ab,ab,ab,ab,ab] rfl rfl (am HT_.out (by kernel_rfl)) (fun _ _ _ h=>h) (Or.inl ⟨by rfl,?_⟩) ?_ ?_;rotate_left
                  ·intro w';go_simp
                   with_reducible rfl
                  rotate_left
                  ·simp only [Act.put,ac,ad,ae,ak,al]
                   rfl
                  refine ap (i:=6) (N:=some 88) (v:=undef) (a':=?_) #[aa,aa,aa,aa,aa,aa,aa,ab,ab,ab,ab,ab,ab,ab,ab,ab,ab,ab,ab,ab,ab] rfl rfl (am HT_.out (by kernel_rfl)) (fun _ _ _ h=>h) (Or.inr ⟨by rfl,rfl⟩) ?_ ?_;rotate_left
                  ·simp only [Act.put,ac,ad,ae,ak,al]
                   rfl
                  refine ap (i:=7) (N:=some 89) (v:=undef) (a':=?_) #[aa,aa,aa,aa,aa,aa,aa,aa,ab,ab,ab,ab,ab,ab,ab,ab,ab,ab,ab,ab,ab] rfl rfl (am HT_.out (by kernel_rfl)) (fun _ _ _ h=>h) (Or.inr ⟨by rfl,rfl⟩) ?_ ?_;rotate_left
                  ·simp only [Act.put,ac,ad,ae,ak,al]
                   rfl
                  refine ap (i:=8) (N:=some 90) (v:=undef) (a':=?_) #[aa,aa,aa,aa,aa,aa,aa,aa,aa,ab,ab,ab,ab,ab,ab,ab,ab,ab,ab,ab,ab] rfl rfl (am HT_.out (by kernel_rfl)) (fun _ _ _ h=>h) (Or.inr ⟨by rfl,rfl⟩) ?_ ?_;rotate_left
                  ·simp only [Act.put,ac,ad,ae,ak,al]
                   rfl
                  refine ap (i:=9) (N:=some 91) (v:=undef) (a':=?_) #[aa,aa,aa,aa,aa,aa,aa,aa,aa,aa,ab,ab,ab,ab,ab,ab,ab,ab,ab,ab,ab] rfl rfl (am HT_.out (by kernel_rfl)) (fun _ _ _ h=>h) (Or.inr ⟨by rfl,rfl⟩) ?_ ?_;rotate_left
                  ·simp only [Act.put,ac,ad,ae,ak,al]
                   rfl
                  refine ap (i:=10) (N:=some 92) (v:=undef) (a':=?_) #[aa,aa,aa,aa,aa,aa,aa,aa,aa,aa,aa,ab,ab,ab,ab,ab,ab,ab,ab,ab,ab] rfl rfl (am HT_.out (by kernel_rfl)) (fun _ _ _ h=>h) (Or.inr ⟨by rfl,rfl⟩) ?_ ?_;rotate_left
                  ·simp only [Act.put,ac,ad,ae,ak,al]
                   rfl
                  refine ap (i:=11) (N:=some 93) (v:=undef) (a':=?_) #[aa,aa,aa,aa,aa,aa,aa,aa,aa,aa,aa,aa,ab,ab,ab,ab,ab,ab,ab,ab,ab] rfl rfl (am HT_.out (by kernel_rfl)) (fun _ _ _ h=>h) (Or.inr ⟨by rfl,rfl⟩) ?_ ?_;rotate_left
                  ·simp only [Act.put,ac,ad,ae,ak,al]
                   rfl
                  refine ap (i:=12) (N:=some 94) (v:=undef) (a':=?_) #[aa,aa,aa,aa,aa,aa,aa,aa,aa,aa,aa,aa,aa,ab,ab,ab,ab,ab,ab,ab,ab] rfl rfl (am HT_.out (by kernel_rfl)) (fun _ _ _ h=>h) (Or.inr ⟨by rfl,rfl⟩) ?_ ?_;rotate_left
                  ·simp only [Act.put,ac,ad,ae,ak,al]
                   rfl
                  refine ap (i:=13) (N:=some 95) (v:=undef) (a':=?_) #[aa,aa,aa,aa,aa,aa,aa,aa,aa,aa,aa,aa,aa,aa,ab,ab,ab,ab,ab,ab,ab] rfl rfl (am HT_.out (by kernel_rfl)) (fun _ _ _ h=>h) (Or.inr ⟨by rfl,rfl⟩) ?_ ?_;rotate_left
                  ·simp only [Act.put,ac,ad,ae,ak,al]
                   rfl
                  refine ap (i:=14) (N:=some 96) (v:=undef) (a':=?_) #[aa,aa,aa,aa,aa,aa,aa,aa,aa,aa,aa,aa,aa,aa,aa,ab,ab,ab,ab,ab,ab] rfl rfl (am HT_.out (by kernel_rfl)) (fun _ _ _ h=>h) (Or.inr ⟨by rfl,rfl⟩) ?_ ?_;rotate_left
                  ·simp only [Act.put,ac,ad,ae,ak,al]
                   rfl
                  refine ap (i:=15) (N:=some 97) (v:=undef) (a':=?_) #[aa,aa,aa,aa,aa,aa,aa,aa,aa,aa,aa,aa,aa,aa,aa,aa,ab,ab,ab,ab,ab] rfl rfl (am HT_.out (by kernel_rfl)) (fun _ _ _ h=>h) (Or.inr ⟨by rfl,rfl⟩) ?_ ?_;rotate_left
                  ·simp only [Act.put,ac,ad,ae,ak,al]
                   rfl
                  refine ap (i:=16) (N:=some 98) (v:=undef) (a':=?_) #[aa,aa,aa,aa,aa,aa,aa,aa,aa,aa,aa,aa,aa,aa,aa,aa,aa,ab,ab,ab,ab] rfl rfl (am HT_.out (by kernel_rfl)) (fun _ _ _ h=>h) (Or.inr ⟨by rfl,rfl⟩) ?_ ?_;rotate_left
                  ·simp only [Act.put,ac,ad,ae,ak,al]
                   rfl
                  refine ap (i:=17) (N:=some 99) (v:=undef) (a':=?_) #[aa,aa,aa,aa,aa,aa,aa,aa,aa,aa,aa,aa,aa,aa,aa,aa,aa,aa,ab,ab,ab] rfl rfl (am HT_.out (by kernel_rfl)) (fun _ _ _ h=>h) (Or.inr ⟨by rfl,rfl⟩) ?_ ?_;rotate_left
                  ·simp only [Act.put,ac,ad,ae,ak,al]
                   rfl
                  refine ap (i:=18) (N:=some 100) (v:=undef) (a':=?_) #[aa,aa,aa,aa,aa,aa,aa,aa,aa,aa,aa,aa,aa,aa,aa,aa,aa,aa,aa,ab,ab] rfl rfl (am HT_.out (by kernel_rfl)) (fun _ _ _ h=>h) (Or.inr ⟨by rfl,rfl⟩) ?_ ?_;rotate_left
                  ·simp only [Act.put,ac,ad,ae,ak,al]
                   rfl
                  refine ap (i:=19) (N:=some 101) (v:=undef) (a':=?_) #[aa,aa,aa,aa,aa,aa,aa,aa,aa,aa,aa,aa,aa,aa,aa,aa,aa,aa,aa,aa,ab] rfl rfl (am HT_.out (by kernel_rfl)) (fun _ _ _ h=>h) (Or.inr ⟨by rfl,rfl⟩) ?_ ?_;rotate_left
                  ·simp only [Act.put,ac,ad,ae,ak,al]
                   rfl
                  refine ap (i:=20) (N:=some 102) (v:=?_) (a':=?_) #[aa,aa,aa,aa,aa,aa,aa,aa,aa,aa,aa,aa,aa,aa,aa,aa,aa,aa,aa,aa,aa] rfl rfl (am HT_.out (by kernel_rfl)) (fun _ _ _ h=>h) (Or.inl ⟨by rfl,?_⟩) ?_ ?_;rotate_left
                  ·intro w';go_simp
                   with_reducible rfl
                  rotate_left
                  ·simp only [Act.put,ac,ad,ae,ak,al]
                   rfl
                  refine done_ (bC HT_.out (by kernel_rfl)) ?_;try go_wp2
                  go_roundg k4
                  case measure=>have:=HK1.out;have:=HK2.out;have:=HK3.out;have:=HK4.out;omega
                  case rel=>exact ⟨(x16_4),(wrap64 (x17_4 + 1)),(by first|rfl|(simp;done)|(simp [*];done)),(by first|rfl|(simp;done)|(simp [*];done)),H',⟨by have:=HK1.out;have:=HK2.out;have:=HK3.out;have:=HK4.out;omega⟩,⟨kr x.out⟩,⟨by (with_reducible repeat (first|apply ah|apply ai|apply aj));exact s.out⟩,⟨kr G.out⟩,⟨kv d.out⟩,⟨by (with_reducible repeat (first|apply kb1|apply kb2|apply kb3));exact m.out⟩,⟨by repeat (first|(with_reducible first|exact HB.out|apply kc1|apply kc2|apply kc3|refine kc4 ?_ b2.out)|exact HB.out)⟩⟩
                 ·replace c70:=Bool.eq_false_iff.mpr c70;subst c70;have H1 : (if x16_4 < 0 then (trivetref03_Shares.l3 k4 l1 x7_3 x8_2 x9_3 x15_3 x17_4 (wrap64 (x17_4 + 1))) else (if x17_4 < (x8_2.length : Int) then (if 0≤x16_4 then (if x16_4 < (x8_2.length : Int) then ((trivetref01_Cmp.f k4 ((aM x8_2 x17_4).f0) ((aM x8_2 x17_4).f1) ((aM x8_2 x16_4).f0) ((aM x8_2 x16_4).f1)).bind fun c0=>(if c0 > 0 then (trivetref03_Shares.l3 k4 l1 x7_3 x8_2 x9_3 x15_3 x17_4 (wrap64 (x17_4 + 1))) else (trivetref03_Shares.l3 k4 l1 x7_3 x8_2 x9_3 x15_3 x16_4 (wrap64 (x17_4 + 1))))) else (none)) else (none)) else (none))) = some r:=by rw [if_neg (show ¬ (false = true) by decide)] at H;exact H
                  clear H;have H:=H1;clear H1;by_cases c73 : x16_4 < 0
                  ·rw [if_pos c73] at H
                   have c73b0 : decide (x16_4 < 0) = true:=decide_eq_true c73;clear c73;have H':=ka H;clear H;try go_wp2
                   replace x:=ka (bf x.out);replace s:=ka (aj s.out);replace G:=ka (bf G.out);replace d:=ka (bi d.out);replace m:=ka (bq m.out);replace HB:=ka (bn HB.out);obtain ⟨u3,u4,m2⟩:=bA G.out;(first|subst m2|(injection m2 with f1_ f2_ f3_;have f4_:=f1_.symm;have f5_:=f3_.symm;clear f1_ f2_ f3_;subst f4_;subst f5_));have p770 : 0≤(x17_4 : Int):=of_decide_eq_true (by first|(with_reducible assumption)|assumption);have q770 : x17_4 < (x15_3.length : Int):=of_decide_eq_true (by first|(with_reducible assumption)|assumption);obtain ⟨ad770,e770,hx770_0⟩:=bG (bw G.out).2.2 x17_4 p770 q770;(try rw [← Nbq69.out] at hx770_0);cases e770
                   replace p770:=eq_true p770;replace q770:=eq_true q770;refine bI (n:=21) (S:=fun w'=>w'.cell? (ad770.add (x17_4).toNat) = some (.bool false)) (ds:=[]) #[ab,ab,ab,ab,ab,ab,ab,ab,ab,ab,ab,ab,ab,ab,ab,ab,ab,ab,ab,ab,ab] (by kernel_rfl) rfl rfl (hx770_0) (fun hHeld=>?_);refine br trivetref03_Shares.tab24 trivetref03_Shares.bits24 (fun HT_ HW_=>?_);generalize wr.drew = y7 at x s G d m HB hx770_0 hHeld ⊢;refine ap (i:=0) (N:=some 82) (v:=?_) (a':=?_) #[aa,ab,ab,ab,ab,ab,ab,ab,ab,ab,ab,ab,ab,ab,ab,ab,ab,ab,ab,ab,ab] rfl rfl (am HT_.out (by kernel_rfl)) (fun _ _ _ h=>h) (Or.inl ⟨by rfl,?_⟩) ?_ ?_;rotate_left
                   ·intro w';go_simp
                    with_reducible rfl
                   rotate_left
                   ·simp only [Act.put,ac,ad,ae,ak,al]
                    rfl
                   refine ap (i:=1) (N:=some 83) (v:=?_) (a':=?_) #[aa,aa,ab,ab,ab,ab,ab,ab,ab,ab,ab,ab,ab,ab,ab,ab,ab,ab,ab,ab,ab] rfl rfl (am HT_.out (by kernel_rfl)) (fun _ _ _ h=>h) (Or.inl ⟨by rfl,?_⟩) ?_ ?_;rotate_left
                   ·intro w';go_simp
                    with_reducible rfl
                   rotate_left
                   ·simp only [Act.put,ac,ad,ae,ak,al]
                    rfl
                   refine ap (i:=2) (N:=some 84) (v:=?_) (a':=?_) #[aa,aa,aa,ab,ab,ab,ab,ab,ab,ab,ab,ab,ab,ab,ab,ab,ab,ab,ab,ab,ab] rfl rfl (am HT_.out (by kernel_rfl)) (fun _ _ _ h=>h) (Or.inl ⟨by rfl,?_⟩) ?_ ?_;rotate_left
                   ·intro w';go_simp
                    with_reducible rfl
                   rotate_left
                   ·simp only [Act.put,ac,ad,ae,ak,al]
                    rfl
                   refine take_ (i:=3) (N:=some 85) (v:=?_) (a':=?_) #[aa,aa,aa,aa,ab,ab,ab,ab,ab,ab,ab,ab,ab,ab,ab,ab,ab,ab,ab,ab,ab] rfl rfl (be HT_.out HW_.out (by kernel_rfl)) (fun _ _ _ h=>h) (Or.inl ⟨by rfl,?_⟩) hHeld ?_ ?_;rotate_left
                   ·intro w' s0;go_simp
                    with_reducible rfl
                   rotate_left
                   ·simp only [Act.put,ac,ad,ae,ak,al]
                    rfl
                   refine ap (i:=4) (N:=some 86) (v:=?_) (a':=?_) #[aa,aa,aa,aa,aa,ab,ab,ab,ab,ab,ab,ab,ab,ab,ab,ab,ab,ab,ab,ab,ab] rfl rfl (am HT_.out (by kernel_rfl)) (fun _ _ _ h=>h) (Or.inl ⟨by rfl,?_⟩) ?_ ?_;rotate_left
                   ·intro w';go_simp
                    with_reducible rfl
                   rotate_left
                   ·simp only [Act.put,ac,ad,ae,ak,al]
                    rfl
                   refine ap (i:=5) (N:=some 87) (v:=?_) (a':=?_) #[aa,aa,aa,aa,aa,aa,ab,ab,ab,ab,ab,ab,ab,ab,ab,ab,ab,ab,ab,ab,ab] rfl rfl (am HT_.out (by kernel_rfl)) (fun _ _ _ h=>h) (Or.inl ⟨by rfl,?_⟩) ?_ ?_;rotate_left
                   ·intro w';go_simp
                    with_reducible rfl
                   rotate_left
                   ·simp only [Act.put,ac,ad,ae,ak,al]
                    rfl
                   refine ap (i:=6) (N:=some 88) (v:=?_) (a':=?_) #[aa,aa,aa,aa,aa,aa,aa,ab,ab,ab,ab,ab,ab,ab,ab,ab,ab,ab,ab,ab,ab] rfl rfl (am HT_.out (by kernel_rfl)) (fun _ _ _ h=>h) (Or.inl ⟨by rfl,?_⟩) ?_ ?_;rotate_left
                   ·intro w';go_simp
                    with_reducible rfl
                   rotate_left
                   ·simp only [Act.put,ac,ad,ae,ak,al]
                    rfl
                   refine ap (i:=7) (N:=some 89) (v:=?_) (a':=?_) #[aa,aa,aa,aa,aa,aa,aa,aa,ab,ab,ab,ab,ab,ab,ab,ab,ab,ab,ab,ab,ab] rfl rfl (am HT_.out (by kernel_rfl)) (fun _ _ _ h=>h) (Or.inl ⟨by rfl,?_⟩) ?_ ?_;rotate_left
                   ·intro w';go_simp
                    with_reducible rfl
                   rotate_left
                   ·simp only [Act.put,ac,ad,ae,ak,al]
                    rfl
                   refine ap (i:=8) (N:=some 90) (v:=?_) (a':=?_) #[aa,aa,aa,aa,aa,aa,aa,aa,aa,ab,ab,ab,ab,ab,ab,ab,ab,ab,ab,ab,ab] rfl rfl (am HT_.out (by kernel_rfl)) (fun _ _ _ h=>h) (Or.inl ⟨by rfl,?_⟩) ?_ ?_;rotate_left
                   ·intro w';go_simp
                    with_reducible rfl
                   rotate_left
                   ·simp only [Act.put,ac,ad,ae,ak,al]
                    rfl
                   refine ap (i:=9) (N:=some 91) (v:=undef) (a':=?_) #[aa,aa,aa,aa,aa,aa,aa,aa,aa,aa,ab,ab,ab,ab,ab,ab,ab,ab,ab,ab,ab] rfl rfl (am HT_.out (by kernel_rfl)) (fun _ _ _ h=>h) (Or.inr ⟨by rfl,rfl⟩) ?_ ?_;rotate_left
                   ·simp only [Act.put,ac,ad,ae,ak,al]
                    rfl
                   refine ap (i:=10) (N:=some 92) (v:=undef) (a':=?_) #[aa,aa,aa,aa,aa,aa,aa,aa,aa,aa,aa,ab,ab,ab,ab,ab,ab,ab,ab,ab,ab] rfl rfl (am HT_.out (by kernel_rfl)) (fun _ _ _ h=>h) (Or.inr ⟨by rfl,rfl⟩) ?_ ?_;rotate_left
                   ·simp only [Act.put,ac,ad,ae,ak,al]
                    rfl
                   refine ap (i:=11) (N:=some 93) (v:=undef) (a':=?_) #[aa,aa,aa,aa,aa,aa,aa,aa,aa,aa,aa,aa,ab,ab,ab,ab,ab,ab,ab,ab,ab] rfl rfl (am HT_.out (by kernel_rfl)) (fun _ _ _ h=>h) (Or.inr ⟨by rfl,rfl⟩) ?_ ?_;rotate_left
                   ·simp only [Act.put,ac,ad,ae,ak,al]
                    rfl
                   refine ap (i:=12) (N:=some 94) (v:=undef) (a':=?_) #[aa,aa,aa,aa,aa,aa,aa,aa,aa,aa,aa,aa,aa,ab,ab,ab,ab,ab,ab,ab,ab] rfl rfl (am HT_.out (by kernel_rfl)) (fun _ _ _ h=>h) (Or.inr ⟨by rfl,rfl⟩) ?_ ?_;rotate_left
                   ·simp only [Act.put,ac,ad,ae,ak,al]
                    rfl
                   refine ap (i:=13) (N:=some 95) (v:=undef) (a':=?_) #[aa,aa,aa,aa,aa,aa,aa,aa,aa,aa,aa,aa,aa,aa,ab,ab,ab,ab,ab,ab,ab] rfl rfl (am HT_.out (by kernel_rfl)) (fun _ _ _ h=>h) (Or.inr ⟨by rfl,rfl⟩) ?_ ?_;rotate_left
                   ·simp only [Act.put,ac,ad,ae,ak,al]
                    rfl
                   refine ap (i:=14) (N:=some 96) (v:=undef) (a':=?_) #[aa,aa,aa,aa,aa,aa,aa,aa,aa,aa,aa,aa,aa,aa,aa,ab,ab,ab,ab,ab,ab] rfl rfl (am HT_.out (by kernel_rfl)) (fun _ _ _ h=>h) (Or.inr ⟨by rfl,rfl⟩) ?_ ?_;rotate_left
                   ·simp only [Act.put,ac,ad,ae,ak,al]
                    rfl
                   refine ap (i:=15) (N:=some 97) (v:=undef) (a':=?_) #[aa,aa,aa,aa,aa,aa,aa,aa,aa,aa,aa,aa,aa,aa,aa,aa,ab,ab,ab,ab,ab] rfl rfl (am HT_.out (by kernel_rfl)) (fun _ _ _ h=>h) (Or.inr ⟨by rfl,rfl⟩) ?_ ?_;rotate_left
                   ·simp only [Act.put,ac,ad,ae,ak,al]
                    rfl
                   refine ap (i:=16) (N:=some 98) (v:=undef) (a':=?_) #[aa,aa,aa,aa,aa,aa,aa,aa,aa,aa,aa,aa,aa,aa,aa,aa,aa,ab,ab,ab,ab] rfl rfl (am HT_.out (by kernel_rfl)) (fun _ _ _ h=>h) (Or.inr ⟨by rfl,rfl⟩) ?_ ?_;rotate_left
                   ·simp only [Act.put,ac,ad,ae,ak,al]
                    rfl
                   refine ap (i:=17) (N:=some 99) (v:=undef) (a':=?_) #[aa,aa,aa,aa,aa,aa,aa,aa,aa,aa,aa,aa,aa,aa,aa,aa,aa,aa,ab,ab,ab] rfl rfl (am HT_.out (by kernel_rfl)) (fun _ _ _ h=>h) (Or.inr ⟨by rfl,rfl⟩) ?_ ?_;rotate_left
                   ·simp only [Act.put,ac,ad,ae,ak,al]
                    rfl
                   refine ap (i:=18) (N:=some 100) (v:=undef) (a':=?_) #[aa,aa,aa,aa,aa,aa,aa,aa,aa,aa,aa,aa,aa,aa,aa,aa,aa,aa,aa,ab,ab] rfl rfl (am HT_.out (by kernel_rfl)) (fun _ _ _ h=>h) (Or.inr ⟨by rfl,rfl⟩) ?_ ?_;rotate_left
                   ·simp only [Act.put,ac,ad,ae,ak,al]
                    rfl
                   refine ap (i:=19) (N:=some 101) (v:=?_) (a':=?_) #[aa,aa,aa,aa,aa,aa,aa,aa,aa,aa,aa,aa,aa,aa,aa,aa,aa,aa,aa,aa,ab] rfl rfl (am HT_.out (by kernel_rfl)) (fun _ _ _ h=>h) (Or.inl ⟨by rfl,?_⟩) ?_ ?_;rotate_left
                   ·intro w';go_simp
                    with_reducible rfl
                   rotate_left
                   ·simp only [Act.put,ac,ad,ae,ak,al]
                    rfl
                   refine ap (i:=20) (N:=some 102) (v:=?_) (a':=?_) #[aa,aa,aa,aa,aa,aa,aa,aa,aa,aa,aa,aa,aa,aa,aa,aa,aa,aa,aa,aa,aa] rfl rfl (am HT_.out (by kernel_rfl)) (fun _ _ _ h=>h) (Or.inl ⟨by rfl,?_⟩) ?_ ?_;rotate_left
                   ·intro w';go_simp
                    with_reducible rfl
                   rotate_left
                   ·simp only [Act.put,ac,ad,ae,ak,al]
                    rfl
                   refine done_ (bC HT_.out (by kernel_rfl)) ?_;try go_wp2
                   go_roundg k4
                   case measure=>have:=HK1.out;have:=HK2.out;have:=HK3.out;have:=HK4.out;omega
                   case rel=>exact ⟨(x17_4),(wrap64 (x17_4 + 1)),(by first|rfl|(simp;done)|(simp [*];done)),(by first|rfl|(simp;done)|(simp [*];done)),H',⟨by have:=HK1.out;have:=HK2.out;have:=HK3.out;have:=HK4.out;omega⟩,⟨kr x.out⟩,⟨by (with_reducible repeat (first|apply ah|apply ai|apply aj));exact s.out⟩,⟨kr G.out⟩,⟨kv d.out⟩,⟨by (with_reducible repeat (first|apply kb1|apply kb2|apply kb3));exact m.out⟩,⟨by repeat (first|(with_reducible first|exact HB.out|apply kc1|apply kc2|apply kc3|refine kc4 ?_ b2.out)|exact HB.out)⟩⟩
                  ·rw [if_neg c73] at H
                   have c73b0 : decide (x16_4 < 0) = false:=decide_eq_false c73;clear c73;by_cases c76 : x17_4 < (x8_2.length : Int)
                   ·rw [if_pos c76] at H
                    have c76b0 : decide (x17_4 < (x8_2.length : Int)) = true:=decide_eq_true c76;clear c76;by_cases c77 : 0≤x16_4
                    ·rw [if_pos c77] at H
                     have c77b0 : decide (0≤x16_4) = true:=decide_eq_true c77;clear c77;by_cases c78 : x16_4 < (x8_2.length : Int)
                     ·rw [if_pos c78] at H
                      have c78b0 : decide (x16_4 < (x8_2.length : Int)) = true:=decide_eq_true c78;clear c78;replace H:=aq.mp H;obtain ⟨c0,m3,H⟩:=H;replace H : (if c0 > 0 then (trivetref03_Shares.l3 k4 l1 x7_3 x8_2 x9_3 x15_3 x17_4 (wrap64 (x17_4 + 1))) else (trivetref03_Shares.l3 k4 l1 x7_3 x8_2 x9_3 x15_3 x16_4 (wrap64 (x17_4 + 1)))) = some r:=H;have o4:=ka m3;clear m3;by_cases c80 : c0 > 0
                      ·rw [if_pos c80] at H
                       have c80b0 : decide (0 < c0) = true:=decide_eq_true c80;clear c80;have H':=ka H;clear H;try go_wp2
                       replace x:=ka (bf x.out);replace s:=ka (aj s.out);replace G:=ka (bf G.out);replace d:=ka (bi d.out);replace m:=ka (bq m.out);replace HB:=ka (bn HB.out);obtain ⟨u5,u6,m4⟩:=bA G.out;(first|subst m4|(injection m4 with f1_ f2_ f3_;have f4_:=f1_.symm;have f5_:=f3_.symm;clear f1_ f2_ f3_;subst f4_;subst f5_));have p770 : 0≤(x17_4 : Int):=of_decide_eq_true (by first|(with_reducible assumption)|assumption);have q770 : x17_4 < (x15_3.length : Int):=of_decide_eq_true (by first|(with_reducible assumption)|assumption);obtain ⟨ad770,e770,hx770_0⟩:=bG (bw G.out).2.2 x17_4 p770 q770;(try rw [← Nbq69.out] at hx770_0);cases e770
                       replace p770:=eq_true p770;replace q770:=eq_true q770;obtain ⟨u9,v0,m5⟩:=Kd.N_slice s.out;(first|subst m5|(injection m5 with f1_ f2_ f3_;have f4_:=f1_.symm;have f5_:=f3_.symm;clear f1_ f2_ f3_;subst f4_;subst f5_));have p771 : 0≤(x17_4 : Int):=of_decide_eq_true (by first|(with_reducible assumption)|assumption);have q771 : x17_4 < (x8_2.length : Int):=of_decide_eq_true (by first|(with_reducible assumption)|assumption);obtain ⟨ad771,A771_0,c771_0,e771,hx771_0,hx771_1,hl771_0,hi771_0⟩:=at_T51 (bk s.out).2.2 x17_4 p771 q771;(try rw [← Nbq69.out] at hx771_1);cases e771
                       obtain ⟨ce771,hce771,hMe771,hcc771⟩:=Kd.N_get s.out z51 x17_4 p771 (by first|exact q771|exact of_decide_eq_true (by first|(with_reducible assumption)|assumption)|(have e_:=(bk s.out).1;omega));obtain ⟨ua771_0,uc771_0,rfl,ul771_0,ge771_0⟩:=k51_openF hMe771;have hv771_0:=hcc771 0 _ rfl;rw [Nat.add_zero] at hv771_0
                       replace hv771_0:=Option.some.inj (hv771_0.symm.trans hx771_0);injection hv771_0 with hva_ hvn_ hvc_
                       rw [hva_] at ge771_0
                       rw [hvc_] at ul771_0
                       have HL771_0:=ka (show bz (aZ .u64) 60 _ w.heap.size _ _ ((aM x8_2 x17_4).f0) from Kd.V_mk ul771_0 ge771_0);clear hva_ hvn_ hvc_ ge771_0 ul771_0;clear hcc771 hce771;have HR771_0:=ka hi771_0;have HC771_0:=ka hl771_0;clear hi771_0 hl771_0;replace p771:=eq_true p771;replace q771:=eq_true q771;have p772 : 0≤(x16_4 : Int):=of_decide_eq_true (by first|(with_reducible assumption)|assumption);have q772 : x16_4 < (x8_2.length : Int):=of_decide_eq_true (by first|(with_reducible assumption)|assumption);obtain ⟨ad772,A772_0,c772_0,e772,hx772_0,hx772_1,hl772_0,hi772_0⟩:=at_T51 (bk s.out).2.2 x16_4 p772 q772;(try rw [← Nbq69.out] at hx772_1);obtain rfl : ad771 = ad772:=(by injection e772)
                       obtain ⟨ce772,hce772,hMe772,hcc772⟩:=Kd.N_get s.out z51 x16_4 p772 (by first|exact q772|exact of_decide_eq_true (by first|(with_reducible assumption)|assumption)|(have e_:=(bk s.out).1;omega));obtain ⟨ua772_0,uc772_0,rfl,ul772_0,ge772_0⟩:=k51_openF hMe772;have hv772_0:=hcc772 0 _ rfl;rw [Nat.add_zero] at hv772_0
                       replace hv772_0:=Option.some.inj (hv772_0.symm.trans hx772_0);injection hv772_0 with hva_ hvn_ hvc_
                       rw [hva_] at ge772_0
                       rw [hvc_] at ul772_0
                       have HL772_0:=ka (show bz (aZ .u64) 60 _ w.heap.size _ _ ((aM x8_2 x16_4).f0) from Kd.V_mk ul772_0 ge772_0);clear hva_ hvn_ hvc_ ge772_0 ul772_0;clear hcc772 hce772;have HR772_0:=ka hi772_0;have HC772_0:=ka hl772_0;clear hi772_0 hl772_0;replace p772:=eq_true p772;replace q772:=eq_true q772;refine bI (n:=21) (S:=fun w'=>w'.cell? (ad770.add (x17_4).toNat) = some (.bool false)∧w'.cell? (ad771.add ((x17_4).toNat * 2)) = some (.slice A771_0 ((aM x8_2 x17_4).f0).length c771_0)∧w'.cell? ⟨(ad771.add ((x17_4).toNat * 2)).block,(ad771.add ((x17_4).toNat * 2)).off + 1,none⟩ = some (.bool ((aM x8_2 x17_4).f1))∧w'.cell? (ad771.add ((x16_4).toNat * 2)) = some (.slice A772_0 ((aM x8_2 x16_4).f0).length c772_0)∧w'.cell? ⟨(ad771.add ((x16_4).toNat * 2)).block,(ad771.add ((x16_4).toNat * 2)).off + 1,none⟩ = some (.bool ((aM x8_2 x16_4).f1))) (ds:=[]) #[ab,ab,ab,ab,ab,ab,ab,ab,ab,ab,ab,ab,ab,ab,ab,ab,ab,ab,ab,ab,ab] (by kernel_rfl) rfl rfl ⟨hx770_0,hx771_0,hx771_1,hx772_0,hx772_1⟩ (fun hHeld=>?_);refine br trivetref03_Shares.tab24 trivetref03_Shares.bits24 (fun HT_ HW_=>?_);generalize wr.drew = y8 at x s G d m HB HL771_0 HL772_0 HR771_0 HR772_0 hx770_0 hx771_0 hx771_1 hx772_0 hx772_1 hHeld ⊢;refine ap (i:=0) (N:=some 82) (v:=?_) (a':=?_) #[aa,ab,ab,ab,ab,ab,ab,ab,ab,ab,ab,ab,ab,ab,ab,ab,ab,ab,ab,ab,ab] rfl rfl (am HT_.out (by kernel_rfl)) (fun _ _ _ h=>h) (Or.inl ⟨by rfl,?_⟩) ?_ ?_;rotate_left
                       ·intro w';go_simp
                        with_reducible rfl
                       rotate_left
                       ·simp only [Act.put,ac,ad,ae,ak,al]
                        rfl
                       refine ap (i:=1) (N:=some 83) (v:=?_) (a':=?_) #[aa,aa,ab,ab,ab,ab,ab,ab,ab,ab,ab,ab,ab,ab,ab,ab,ab,ab,ab,ab,ab] rfl rfl (am HT_.out (by kernel_rfl)) (fun _ _ _ h=>h) (Or.inl ⟨by rfl,?_⟩) ?_ ?_;rotate_left
                       ·intro w';go_simp
                        with_reducible rfl
                       rotate_left
                       ·simp only [Act.put,ac,ad,ae,ak,al]
                        rfl
                       refine ap (i:=2) (N:=some 84) (v:=?_) (a':=?_) #[aa,aa,aa,ab,ab,ab,ab,ab,ab,ab,ab,ab,ab,ab,ab,ab,ab,ab,ab,ab,ab] rfl rfl (am HT_.out (by kernel_rfl)) (fun _ _ _ h=>h) (Or.inl ⟨by rfl,?_⟩) ?_ ?_;rotate_left
                       ·intro w';go_simp
                        with_reducible rfl
                       rotate_left
                       ·simp only [Act.put,ac,ad,ae,ak,al]
                        rfl
                       refine take_ (i:=3) (N:=some 85) (v:=?_) (a':=?_) #[aa,aa,aa,aa,ab,ab,ab,ab,ab,ab,ab,ab,ab,ab,ab,ab,ab,ab,ab,ab,ab] rfl rfl (be HT_.out HW_.out (by kernel_rfl)) (fun _ _ _ h=>h) (Or.inl ⟨by rfl,?_⟩) hHeld ?_ ?_;rotate_left
                       ·rintro w' ⟨s0,s1,s2,s3,s4⟩;go_simp
                        with_reducible rfl
                       rotate_left
                       ·simp only [Act.put,ac,ad,ae,ak,al]
                        rfl
                       refine ap (i:=4) (N:=some 86) (v:=?_) (a':=?_) #[aa,aa,aa,aa,aa,ab,ab,ab,ab,ab,ab,ab,ab,ab,ab,ab,ab,ab,ab,ab,ab] rfl rfl (am HT_.out (by kernel_rfl)) (fun _ _ _ h=>h) (Or.inl ⟨by rfl,?_⟩) ?_ ?_;rotate_left
                       ·intro w';go_simp
                        with_reducible rfl
                       rotate_left
                       ·simp only [Act.put,ac,ad,ae,ak,al]
                        rfl
                       refine ap (i:=5) (N:=some 87) (v:=?_) (a':=?_) #[aa,aa,aa,aa,aa,aa,ab,ab,ab,ab,ab,ab,ab,ab,ab,ab,ab,ab,ab,ab,ab] rfl rfl (am HT_.out (by kernel_rfl)) (fun _ _ _ h=>h) (Or.inl ⟨by rfl,?_⟩) ?_ ?_;rotate_left
                       ·intro w';go_simp
                        with_reducible rfl
                       rotate_left
                       ·simp only [Act.put,ac,ad,ae,ak,al]
                        rfl
                       refine ap (i:=6) (N:=some 88) (v:=?_) (a':=?_) #[aa,aa,aa,aa,aa,aa,aa,ab,ab,ab,ab,ab,ab,ab,ab,ab,ab,ab,ab,ab,ab] rfl rfl (am HT_.out (by kernel_rfl)) (fun _ _ _ h=>h) (Or.inl ⟨by rfl,?_⟩) ?_ ?_;rotate_left
                       ·intro w';go_simp
                        with_reducible rfl
                       rotate_left
                       ·simp only [Act.put,ac,ad,ae,ak,al]
                        rfl
                       refine ap (i:=7) (N:=some 89) (v:=?_) (a':=?_) #[aa,aa,aa,aa,aa,aa,aa,aa,ab,ab,ab,ab,ab,ab,ab,ab,ab,ab,ab,ab,ab] rfl rfl (am HT_.out (by kernel_rfl)) (fun _ _ _ h=>h) (Or.inl ⟨by rfl,?_⟩) ?_ ?_;rotate_left
                       ·intro w';go_simp
                        with_reducible rfl
                       rotate_left
                       ·simp only [Act.put,ac,ad,ae,ak,al]
                        rfl
                       refine ap (i:=8) (N:=some 90) (v:=?_) (a':=?_) #[aa,aa,aa,aa,aa,aa,aa,aa,aa,ab,ab,ab,ab,ab,ab,ab,ab,ab,ab,ab,ab] rfl rfl (am HT_.out (by kernel_rfl)) (fun _ _ _ h=>h) (Or.inl ⟨by rfl,?_⟩) ?_ ?_;rotate_left
                       ·intro w';go_simp
                        with_reducible rfl
                       rotate_left
                       ·simp only [Act.put,ac,ad,ae,ak,al]
                        rfl
                       refine ap (i:=9) (N:=some 91) (v:=?_) (a':=?_) #[aa,aa,aa,aa,aa,aa,aa,aa,aa,aa,ab,ab,ab,ab,ab,ab,ab,ab,ab,ab,ab] rfl rfl (am HT_.out (by kernel_rfl)) (fun _ _ _ h=>h) (Or.inl ⟨by rfl,?_⟩) ?_ ?_;rotate_left
                       ·intro w';go_simp
                        with_reducible rfl
                       rotate_left
                       ·simp only [Act.put,ac,ad,ae,ak,al]
                        rfl
                       refine ap (i:=10) (N:=some 92) (v:=?_) (a':=?_) #[aa,aa,aa,aa,aa,aa,aa,aa,aa,aa,aa,ab,ab,ab,ab,ab,ab,ab,ab,ab,ab] rfl rfl (am HT_.out (by kernel_rfl)) (fun _ _ _ h=>h) (Or.inl ⟨by rfl,?_⟩) ?_ ?_;rotate_left
                       ·intro w';go_simp
                        with_reducible rfl
                       rotate_left
                       ·simp only [Act.put,ac,ad,ae,ak,al]
                        rfl
                       refine ap (i:=11) (N:=some 93) (v:=?_) (a':=?_) #[aa,aa,aa,aa,aa,aa,aa,aa,aa,aa,aa,aa,ab,ab,ab,ab,ab,ab,ab,ab,ab] rfl rfl (am HT_.out (by kernel_rfl)) (fun _ _ _ h=>h) (Or.inl ⟨by rfl,?_⟩) ?_ ?_;rotate_left
                       ·intro w';go_simp
                        with_reducible rfl
                       rotate_left
                       ·simp only [Act.put,ac,ad,ae,ak,al]
                        rfl
                       refine ap (i:=13) (N:=some 95) (v:=?_) (a':=?_) #[aa,aa,aa,aa,aa,aa,aa,aa,aa,aa,aa,aa,ab,aa,ab,ab,ab,ab,ab,ab,ab] rfl rfl (am HT_.out (by kernel_rfl)) (fun _ _ _ h=>h) (Or.inl ⟨by rfl,?_⟩) ?_ ?_;rotate_left
                       ·intro w';go_simp
                        with_reducible rfl
                       rotate_left
                       ·simp only [Act.put,ac,ad,ae,ak,al]
                        rfl
                       refine ap (i:=14) (N:=some 96) (v:=?_) (a':=?_) #[aa,aa,aa,aa,aa,aa,aa,aa,aa,aa,aa,aa,ab,aa,aa,ab,ab,ab,ab,ab,ab] rfl rfl (am HT_.out (by kernel_rfl)) (fun _ _ _ h=>h) (Or.inl ⟨by rfl,?_⟩) ?_ ?_;rotate_left
                       ·intro w';go_simp
                        with_reducible rfl
                       rotate_left
                       ·simp only [Act.put,ac,ad,ae,ak,al]
                        rfl
                       refine ap (i:=15) (N:=some 97) (v:=?_) (a':=?_) #[aa,aa,aa,aa,aa,aa,aa,aa,aa,aa,aa,aa,ab,aa,aa,aa,ab,ab,ab,ab,ab] rfl rfl (am HT_.out (by kernel_rfl)) (fun _ _ _ h=>h) (Or.inl ⟨by rfl,?_⟩) ?_ ?_;rotate_left
                       ·intro w';go_simp
                        with_reducible rfl
                       rotate_left
                       ·simp only [Act.put,ac,ad,ae,ak,al]
                        rfl
                       refine take_ (i:=12) (N:=some 94) (v:=?_) (a':=?_) #[aa,aa,aa,aa,aa,aa,aa,aa,aa,aa,aa,aa,aa,aa,aa,aa,ab,ab,ab,ab,ab] rfl rfl (be HT_.out HW_.out (by kernel_rfl)) (fun _ _ _ h=>h) (Or.inl ⟨by rfl,?_⟩) hHeld ?_ ?_;rotate_left
                       ·rintro w' ⟨s0,s1,s2,s3,s4⟩;go_simp
                        with_reducible rfl
                       rotate_left
                       ·simp only [Act.put,ac,ad,ae,ak,al]
                        rfl
                       refine take_ (i:=16) (N:=some 98) (v:=?_) (a':=?_) #[aa,aa,aa,aa,aa,aa,aa,aa,aa,aa,aa,aa,aa,aa,aa,aa,aa,ab,ab,ab,ab] rfl rfl (be HT_.out HW_.out (by kernel_rfl)) (fun _ _ _ h=>h) (Or.inl ⟨by rfl,?_⟩) hHeld ?_ ?_;rotate_left
                       ·rintro w' ⟨s0,s1,s2,s3,s4⟩;go_simp
                        with_reducible rfl
                       rotate_left
                       ·simp only [Act.put,ac,ad,ae,ak,al]
                        rfl
                       refine bE (i:=17) (N:=some 99) #[aa,aa,aa,aa,aa,aa,aa,aa,aa,aa,aa,aa,aa,aa,aa,aa,aa,aa,ab,ab,ab] rfl rfl (bj HT_.out (by kernel_rfl)) (by decide) (fun K hK=>?_);refine bt Try.func29 (by kernel_rfl) rfl #[.agg #[.slice A771_0 ((aM x8_2 x17_4).f0).length c771_0,.bool ((aM x8_2 x17_4).f1)],.agg #[.slice A772_0 ((aM x8_2 x16_4).f0).length c772_0,.bool ((aM x8_2 x16_4).f1)]] (by rfl) rfl rfl (by (try simp only [au,aI,aN]);first|done|rfl|(simp only [av,aw];rfl)) ?_;with_reducible refine (trivetref01_Cmp.calls k4 _ _ ((aM x8_2 x17_4).f0) ((aM x8_2 x17_4).f1) _ _ ((aM x8_2 x16_4).f0) ((aM x8_2 x16_4).f1) c0 _ ?side1 ?side2 ?side3 ?side4 o4.out).mono ?_
                       (case side1=>repeat (first|exact (by repeat (first|(with_reducible exact HR771_0.out)|(with_reducible refine ax ?_ _)|(with_reducible refine ay ?_ _)|(with_reducible refine aH ?_)|exact HR771_0.out))|with_reducible first|refine ax ?_ _|refine ay ?_ _|refine aH ?_));(case side2=>exact HC771_0.out);(case side3=>repeat (first|exact (by repeat (first|(with_reducible exact HR772_0.out)|(with_reducible refine ax ?_ _)|(with_reducible refine ay ?_ _)|(with_reducible refine aH ?_)|exact HR772_0.out))|with_reducible first|refine ax ?_ _|refine ay ?_ _|refine aH ?_));(case side4=>exact HC772_0.out);rintro e y9 ⟨rfl,hb⟩;have HS0_:=(hb.cell (af _ _ (hHeld.1))).trans (hHeld.1);have HS1_:=(hb.cell (af _ _ (hHeld.2.1))).trans (hHeld.2.1);have HS2_:=(hb.cell (af _ _ (hHeld.2.2.1))).trans (hHeld.2.2.1);have HS3_:=(hb.cell (af _ _ (hHeld.2.2.2.1))).trans (hHeld.2.2.2.1);have HS4_:=(hb.cell (af _ _ (hHeld.2.2.2.2))).trans (hHeld.2.2.2.2);refine ⟨_,rfl,?_⟩;replace x:=ka (aD (kr x.out) hb);replace s:=ka (aJ (by (with_reducible repeat (first|apply ah|apply ai|apply aj));exact s.out) hb);replace G:=ka (aD (kr G.out) hb);replace d:=kvb d hb;replace HL771_0:=ka (aE (kv HL771_0.out) hb);replace HL772_0:=ka (aE (kv HL772_0.out) hb);replace m:=kbb m hb;replace HR771_0:=ka (bH (by repeat (first|(with_reducible exact HR771_0.out)|(with_reducible refine ax ?_ _)|(with_reducible refine ay ?_ _)|(with_reducible refine aH ?_)|exact HR771_0.out)) hb);replace HR772_0:=ka (bH (by repeat (first|(with_reducible exact HR772_0.out)|(with_reducible refine ax ?_ _)|(with_reducible refine ay ?_ _)|(with_reducible refine aH ?_)|exact HR772_0.out)) hb);replace HB:=ka (az (kw HB.out) hb);(try clear hb);refine hK.out _ _ ⟨HS0_,HS1_,HS2_,HS3_,HS4_⟩ (fun hHeld=>?_);clear hK K;refine bh (a':=?_) ?_ ?_;rotate_left
                       ·show Act.put _ (some 99) _ = _
                        simp only [Act.put,ac,ad,ae,ak,al]
                        rfl
                       refine ap (i:=18) (N:=some 100) (v:=?_) (a':=?_) #[aa,aa,aa,aa,aa,aa,aa,aa,aa,aa,aa,aa,aa,aa,aa,aa,aa,aa,aa,ab,ab] rfl rfl (am HT_.out (by kernel_rfl)) (fun _ _ _ h=>h) (Or.inl ⟨by rfl,?_⟩) ?_ ?_;rotate_left
                       ·intro w';go_simp
                        with_reducible rfl
                       rotate_left
                       ·simp only [Act.put,ac,ad,ae,ak,al]
                        rfl
                       refine ap (i:=19) (N:=some 101) (v:=?_) (a':=?_) #[aa,aa,aa,aa,aa,aa,aa,aa,aa,aa,aa,aa,aa,aa,aa,aa,aa,aa,aa,aa,ab] rfl rfl (am HT_.out (by kernel_rfl)) (fun _ _ _ h=>h) (Or.inl ⟨by rfl,?_⟩) ?_ ?_;rotate_left
                       ·intro w';go_simp
                        with_reducible rfl
                       rotate_left
                       ·simp only [Act.put,ac,ad,ae,ak,al]
                        rfl
                       refine ap (i:=20) (N:=some 102) (v:=?_) (a':=?_) #[aa,aa,aa,aa,aa,aa,aa,aa,aa,aa,aa,aa,aa,aa,aa,aa,aa,aa,aa,aa,aa] rfl rfl (am HT_.out (by kernel_rfl)) (fun _ _ _ h=>h) (Or.inl ⟨by rfl,?_⟩) ?_ ?_;rotate_left
                       ·intro w';go_simp
                        with_reducible rfl
                       rotate_left
                       ·simp only [Act.put,ac,ad,ae,ak,al]
                        rfl
                       refine done_ (bC HT_.out (by kernel_rfl)) ?_;try go_wp2
                       go_roundg k4
                       case measure=>have:=HK1.out;have:=HK2.out;have:=HK3.out;have:=HK4.out;omega
                       case rel=>exact ⟨(x17_4),(wrap64 (x17_4 + 1)),(by first|rfl|(simp;done)|(simp [*];done)),(by first|rfl|(simp;done)|(simp [*];done)),H',⟨by have:=HK1.out;have:=HK2.out;have:=HK3.out;have:=HK4.out;omega⟩,⟨kr x.out⟩,⟨by (with_reducible repeat (first|apply ah|apply ai|apply aj));exact s.out⟩,⟨kr G.out⟩,⟨kv d.out⟩,⟨by (with_reducible repeat (first|apply kb1|apply kb2|apply kb3));exact m.out⟩,⟨by repeat (first|(with_reducible first|exact HB.out|apply kc1|apply kc2|apply kc3|refine kc4 ?_ b2.out)|exact HB.out)⟩⟩
                      ·rw [if_neg c80] at H
                       have c80b0 : decide (0 < c0) = false:=decide_eq_false c80;clear c80;have H':=ka H;clear H;try go_wp2
                       replace x:=ka (bf x.out);replace s:=ka (aj s.out);replace G:=ka (bf G.out);replace d:=ka (bi d.out);replace m:=ka (bq m.out);replace HB:=ka (bn HB.out);obtain ⟨v2,v3,m6⟩:=bA G.out;(first|subst m6|(injection m6 with f1_ f2_ f3_;have f4_:=f1_.symm;have f5_:=f3_.symm;clear f1_ f2_ f3_;subst f4_;subst f5_));have p770 : 0≤(x17_4 : Int):=of_decide_eq_true (by first|(with_reducible assumption)|assumption);have q770 : x17_4 < (x15_3.length : Int):=of_decide_eq_true (by first|(with_reducible assumption)|assumption);obtain ⟨ad770,e770,hx770_0⟩:=bG (bw G.out).2.2 x17_4 p770 q770;(try rw [← Nbq69.out] at hx770_0);cases e770
                       replace p770:=eq_true p770;replace q770:=eq_true q770;obtain ⟨v4,v5,m7⟩:=Kd.N_slice s.out;(first|subst m7|(injection m7 with f1_ f2_ f3_;have f4_:=f1_.symm;have f5_:=f3_.symm;clear f1_ f2_ f3_;subst f4_;subst f5_));have p771 : 0≤(x17_4 : Int):=of_decide_eq_true (by first|(with_reducible assumption)|assumption);have q771 : x17_4 < (x8_2.length : Int):=of_decide_eq_true (by first|(with_reducible assumption)|assumption);obtain ⟨ad771,A771_0,c771_0,e771,hx771_0,hx771_1,hl771_0,hi771_0⟩:=at_T51 (bk s.out).2.2 x17_4 p771 q771;(try rw [← Nbq69.out] at hx771_1);cases e771
                       obtain ⟨ce771,hce771,hMe771,hcc771⟩:=Kd.N_get s.out z51 x17_4 p771 (by first|exact q771|exact of_decide_eq_true (by first|(with_reducible assumption)|assumption)|(have e_:=(bk s.out).1;omega));obtain ⟨ua771_0,uc771_0,rfl,ul771_0,ge771_0⟩:=k51_openF hMe771;have hv771_0:=hcc771 0 _ rfl;rw [Nat.add_zero] at hv771_0
                       replace hv771_0:=Option.some.inj (hv771_0.symm.trans hx771_0);injection hv771_0 with hva_ hvn_ hvc_
                       rw [hva_] at ge771_0
                       rw [hvc_] at ul771_0
                       have HL771_0:=ka (show bz (aZ .u64) 60 _ w.heap.size _ _ ((aM x8_2 x17_4).f0) from Kd.V_mk ul771_0 ge771_0);clear hva_ hvn_ hvc_ ge771_0 ul771_0;clear hcc771 hce771;have HR771_0:=ka hi771_0;have HC771_0:=ka hl771_0;clear hi771_0 hl771_0;replace p771:=eq_true p771;replace q771:=eq_true q771;have p772 : 0≤(x16_4 : Int):=of_decide_eq_true (by first|(with_reducible assumption)|assumption);have q772 : x16_4 < (x8_2.length : Int):=of_decide_eq_true (by first|(with_reducible assumption)|assumption);obtain ⟨ad772,A772_0,c772_0,e772,hx772_0,hx772_1,hl772_0,hi772_0⟩:=at_T51 (bk s.out).2.2 x16_4 p772 q772;(try rw [← Nbq69.out] at hx772_1);obtain rfl : ad771 = ad772:=(by injection e772)
                       obtain ⟨ce772,hce772,hMe772,hcc772⟩:=Kd.N_get s.out z51 x16_4 p772 (by first|exact q772|exact of_decide_eq_true (by first|(with_reducible assumption)|assumption)|(have e_:=(bk s.out).1;omega));obtain ⟨ua772_0,uc772_0,rfl,ul772_0,ge772_0⟩:=k51_openF hMe772;have hv772_0:=hcc772 0 _ rfl;rw [Nat.add_zero] at hv772_0
                       replace hv772_0:=Option.some.inj (hv772_0.symm.trans hx772_0);injection hv772_0 with hva_ hvn_ hvc_
                       rw [hva_] at ge772_0
                       rw [hvc_] at ul772_0
                       have HL772_0:=ka (show bz (aZ .u64) 60 _ w.heap.size _ _ ((aM x8_2 x16_4).f0) from Kd.V_mk ul772_0 ge772_0);clear hva_ hvn_ hvc_ ge772_0 ul772_0;clear hcc772 hce772;have HR772_0:=ka hi772_0;have HC772_0:=ka hl772_0;clear hi772_0 hl772_0;replace p772:=eq_true p772;replace q772:=eq_true q772;refine bI (n:=21) (S:=fun w'=>w'.cell? (ad770.add (x17_4).toNat) = some (.bool false)∧w'.cell? (ad771.add ((x17_4).toNat * 2)) = some (.slice A771_0 ((aM x8_2 x17_4).f0).length c771_0)∧w'.cell? ⟨(ad771.add ((x17_4).toNat * 2)).block,(ad771.add ((x17_4).toNat * 2)).off + 1,none⟩ = some (.bool ((aM x8_2 x17_4).f1))∧w'.cell? (ad771.add ((x16_4).toNat * 2)) = some (.slice A772_0 ((aM x8_2 x16_4).f0).length c772_0)∧w'.cell? ⟨(ad771.add ((x16_4).toNat * 2)).block,(ad771.add ((x16_4).toNat * 2)).off + 1,none⟩ = some (.bool ((aM x8_2 x16_4).f1))) (ds:=[]) #[ab,ab,ab,ab,ab,ab,ab,ab,ab,ab,ab,ab,ab,ab,ab,ab,ab,ab,ab,ab,ab] (by kernel_rfl) rfl rfl ⟨hx770_0,hx771_0,hx771_1,hx772_0,hx772_1⟩ (fun hHeld=>?_);refine br trivetref03_Shares.tab24 trivetref03_Shares.bits24 (fun HT_ HW_=>?_);generalize wr.drew = z0 at x s G d m HB HL771_0 HL772_0 HR771_0 HR772_0 hx770_0 hx771_0 hx771_1 hx772_0 hx772_1 hHeld ⊢;refine ap (i:=0) (N:=some 82) (v:=?_) (a':=?_) #[aa,ab,ab,ab,ab,ab,ab,ab,ab,ab,ab,ab,ab,ab,ab,ab,ab,ab,ab,ab,ab] rfl rfl (am HT_.out (by kernel_rfl)) (fun _ _ _ h=>h) (Or.inl ⟨by rfl,?_⟩) ?_ ?_;rotate_left
                       ·intro w';go_simp
                        with_reducible rfl
                       rotate_left
                       ·simp only [Act.put,ac,ad,ae,ak,al]
                        rfl
                       refine ap (i:=1) (N:=some 83) (v:=?_) (a':=?_) #[aa,aa,ab,ab,ab,ab,ab,ab,ab,ab,ab,ab,ab,ab,ab,ab,ab,ab,ab,ab,ab] rfl rfl (am HT_.out (by kernel_rfl)) (fun _ _ _ h=>h) (Or.inl ⟨by rfl,?_⟩) ?_ ?_;rotate_left
                       ·intro w';go_simp
                        with_reducible rfl
                       rotate_left
                       ·simp only [Act.put,ac,ad,ae,ak,al]
                        rfl
                       refine ap (i:=2) (N:=some 84) (v:=?_) (a':=?_) #[aa,aa,aa,ab,ab,ab,ab,ab,ab,ab,ab,ab,ab,ab,ab,ab,ab,ab,ab,ab,ab] rfl rfl (am HT_.out (by kernel_rfl)) (fun _ _ _ h=>h) (Or.inl ⟨by rfl,?_⟩) ?_ ?_;rotate_left
                       ·intro w';go_simp
                        with_reducible rfl
                       rotate_left
                       ·simp only [Act.put,ac,ad,ae,ak,al]
                        rfl
                       refine take_ (i:=3) (N:=some 85) (v:=?_) (a':=?_) #[aa,aa,aa,aa,ab,ab,ab,ab,ab,ab,ab,ab,ab,ab,ab,ab,ab,ab,ab,ab,ab] rfl rfl (be HT_.out HW_.out (by kernel_rfl)) (fun _ _ _ h=>h) (Or.inl ⟨by rfl,?_⟩) hHeld ?_ ?_;rotate_left
                       ·rintro w' ⟨s0,s1,s2,s3,s4⟩;go_simp
                        with_reducible rfl
                       rotate_left
                       ·simp only [Act.put,ac,ad,ae,ak,al]
                        rfl
                       refine ap (i:=4) (N:=some 86) (v:=?_) (a':=?_) #[aa,aa,aa,aa,aa,ab,ab,ab,ab,ab,ab,ab,ab,ab,ab,ab,ab,ab,ab,ab,ab] rfl rfl (am HT_.out (by kernel_rfl)) (fun _ _ _ h=>h) (Or.inl ⟨by rfl,?_⟩) ?_ ?_;rotate_left
                       ·intro w';go_simp
                        with_reducible rfl
                       rotate_left
                       ·simp only [Act.put,ac,ad,ae,ak,al]
                        rfl
                       refine ap (i:=5) (N:=some 87) (v:=?_) (a':=?_) #[aa,aa,aa,aa,aa,aa,ab,ab,ab,ab,ab,ab,ab,ab,ab,ab,ab,ab,ab,ab,ab] rfl rfl (am HT_.out (by kernel_rfl)) (fun _ _ _ h=>h) (Or.inl ⟨by rfl,?_⟩) ?_ ?_;rotate_left
                       ·intro w';go_simp
                        with_reducible rfl
                       rotate_left
                       ·simp only [Act.put,ac,ad,ae,ak,al]
                        rfl
                       refine ap (i:=6) (N:=some 88) (v:=?_) (a':=?_) #[aa,aa,aa,aa,aa,aa,aa,ab,ab,ab,ab,ab,ab,ab,ab,ab,ab,ab,ab,ab,ab] rfl rfl (am HT_.out (by kernel_rfl)) (fun _ _ _ h=>h) (Or.inl ⟨by rfl,?_⟩) ?_ ?_;rotate_left
                       ·intro w';go_simp
                        with_reducible rfl
                       rotate_left
                       ·simp only [Act.put,ac,ad,ae,ak,al]
                        rfl
                       refine ap (i:=7) (N:=some 89) (v:=?_) (a':=?_) #[aa,aa,aa,aa,aa,aa,aa,aa,ab,ab,ab,ab,ab,ab,ab,ab,ab,ab,ab,ab,ab] rfl rfl (am HT_.out (by kernel_rfl)) (fun _ _ _ h=>h) (Or.inl ⟨by rfl,?_⟩) ?_ ?_;rotate_left
                       ·intro w';go_simp
                        with_reducible rfl
                       rotate_left
                       ·simp only [Act.put,ac,ad,ae,ak,al]
                        rfl
                       refine ap (i:=8) (N:=some 90) (v:=?_) (a':=?_) #[aa,aa,aa,aa,aa,aa,aa,aa,aa,ab,ab,ab,ab,ab,ab,ab,ab,ab,ab,ab,ab] rfl rfl (am HT_.out (by kernel_rfl)) (fun _ _ _ h=>h) (Or.inl ⟨by rfl,?_⟩) ?_ ?_;rotate_left
                       ·intro w';go_simp
                        with_reducible rfl
                       rotate_left
                       ·simp only [Act.put,ac,ad,ae,ak,al]
                        rfl
                       refine ap (i:=9) (N:=some 91) (v:=?_) (a':=?_) #[aa,aa,aa,aa,aa,aa,aa,aa,aa,aa,ab,ab,ab,ab,ab,ab,ab,ab,ab,ab,ab] rfl rfl (am HT_.out (by kernel_rfl)) (fun _ _ _ h=>h) (Or.inl ⟨by rfl,?_⟩) ?_ ?_;rotate_left
                       ·intro w';go_simp
                        with_reducible rfl
                       rotate_left
                       ·simp only [Act.put,ac,ad,ae,ak,al]
                        rfl
                       refine ap (i:=10) (N:=some 92) (v:=?_) (a':=?_) #[aa,aa,aa,aa,aa,aa,aa,aa,aa,aa,aa,ab,ab,ab,ab,ab,ab,ab,ab,ab,ab] rfl rfl (am HT_.out (by kernel_rfl)) (fun _ _ _ h=>h) (Or.inl ⟨by rfl,?_⟩) ?_ ?_;rotate_left
                       ·intro w';go_simp
                        with_reducible rfl
                       rotate_left
                       ·simp only [Act.put,ac,ad,ae,ak,al]
                        rfl
                       refine ap (i:=11) (N:=some 93) (v:=?_) (a':=?_) #[aa,aa,aa,aa,aa,aa,aa,aa,aa,aa,aa,aa,ab,ab,ab,ab,ab,ab,ab,ab,ab] rfl rfl (am HT_.out (by kernel_rfl)) (fun _ _ _ h=>h) (Or.inl ⟨by rfl,?_⟩) ?_ ?_;rotate_left
                       ·intro w';go_simp
                        with_reducible rfl
                       rotate_left
                       ·simp only [Act.put,ac,ad,ae,ak,al]
                        rfl
                       refine ap (i:=13) (N:=some 95) (v:=?_) (a':=?_) #[aa,aa,aa,aa,aa,aa,aa,aa,aa,aa,aa,aa,ab,aa,ab,ab,ab,ab,ab,ab,ab] rfl rfl (am HT_.out (by kernel_rfl)) (fun _ _ _ h=>h) (Or.inl ⟨by rfl,?_⟩) ?_ ?_;rotate_left
                       ·intro w';go_simp
                        with_reducible rfl
                       rotate_left
                       ·simp only [Act.put,ac,ad,ae,ak,al]
                        rfl
                       refine ap (i:=14) (N:=some 96) (v:=?_) (a':=?_) #[aa,aa,aa,aa,aa,aa,aa,aa,aa,aa,aa,aa,ab,aa,aa,ab,ab,ab,ab,ab,ab] rfl rfl (am HT_.out (by kernel_rfl)) (fun _ _ _ h=>h) (Or.inl ⟨by rfl,?_⟩) ?_ ?_;rotate_left
                       ·intro w';go_simp
                        with_reducible rfl
                       rotate_left
                       ·simp only [Act.put,ac,ad,ae,ak,al]
                        rfl
                       refine ap (i:=15) (N:=some 97) (v:=?_) (a':=?_) #[aa,aa,aa,aa,aa,aa,aa,aa,aa,aa,aa,aa,ab,aa,aa,aa,ab,ab,ab,ab,ab] rfl rfl (am HT_.out (by kernel_rfl)) (fun _ _ _ h=>h) (Or.inl ⟨by rfl,?_⟩) ?_ ?_;rotate_left
                       ·intro w';go_simp
                        with_reducible rfl
                       rotate_left
                       ·simp only [Act.put,ac,ad,ae,ak,al]
                        rfl
                       refine take_ (i:=12) (N:=some 94) (v:=?_) (a':=?_) #[aa,aa,aa,aa,aa,aa,aa,aa,aa,aa,aa,aa,aa,aa,aa,aa,ab,ab,ab,ab,ab] rfl rfl (be HT_.out HW_.out (by kernel_rfl)) (fun _ _ _ h=>h) (Or.inl ⟨by rfl,?_⟩) hHeld ?_ ?_;rotate_left
                       ·rintro w' ⟨s0,s1,s2,s3,s4⟩;go_simp
                        with_reducible rfl
                       rotate_left
                       ·simp only [Act.put,ac,ad,ae,ak,al]
                        rfl
                       refine take_ (i:=16) (N:=some 98) (v:=?_) (a':=?_) #[aa,aa,aa,aa,aa,aa,aa,aa,aa,aa,aa,aa,aa,aa,aa,aa,aa,ab,ab,ab,ab] rfl rfl (be HT_.out HW_.out (by kernel_rfl)) (fun _ _ _ h=>h) (Or.inl ⟨by rfl,?_⟩) hHeld ?_ ?_;rotate_left
                       ·rintro w' ⟨s0,s1,s2,s3,s4⟩;go_simp
                        with_reducible rfl
                       rotate_left
                       ·simp only [Act.put,ac,ad,ae,ak,al]
                        rfl
                       refine bE (i:=17) (N:=some 99) #[aa,aa,aa,aa,aa,aa,aa,aa,aa,aa,aa,aa,aa,aa,aa,aa,aa,aa,ab,ab,ab] rfl rfl (bj HT_.out (by kernel_rfl)) (by decide) (fun K hK=>?_);refine bt Try.func29 (by kernel_rfl) rfl #[.agg #[.slice A771_0 ((aM x8_2 x17_4).f0).length c771_0,.bool ((aM x8_2 x17_4).f1)],.agg #[.slice A772_0 ((aM x8_2 x16_4).f0).length c772_0,.bool ((aM x8_2 x16_4).f1)]] (by rfl) rfl rfl (by (try simp only [au,aI,aN]);first|done|rfl|(simp only [av,aw];rfl)) ?_;with_reducible refine (trivetref01_Cmp.calls k4 _ _ ((aM x8_2 x17_4).f0) ((aM x8_2 x17_4).f1) _ _ ((aM x8_2 x16_4).f0) ((aM x8_2 x16_4).f1) c0 _ ?side1 ?side2 ?side3 ?side4 o4.out).mono ?_
                       (case side1=>repeat (first|exact (by repeat (first|(with_reducible exact HR771_0.out)|(with_reducible refine ax ?_ _)|(with_reducible refine ay ?_ _)|(with_reducible refine aH ?_)|exact HR771_0.out))|with_reducible first|refine ax ?_ _|refine ay ?_ _|refine aH ?_));(case side2=>exact HC771_0.out);(case side3=>repeat (first|exact (by repeat (first|(with_reducible exact HR772_0.out)|(with_reducible refine ax ?_ _)|(with_reducible refine ay ?_ _)|(with_reducible refine aH ?_)|exact HR772_0.out))|with_reducible first|refine ax ?_ _|refine ay ?_ _|refine aH ?_));(case side4=>exact HC772_0.out);rintro e z1 ⟨rfl,hb⟩;have HS0_:=(hb.cell (af _ _ (hHeld.1))).trans (hHeld.1);have HS1_:=(hb.cell (af _ _ (hHeld.2.1))).trans (hHeld.2.1);have HS2_:=(hb.cell (af _ _ (hHeld.2.2.1))).trans (hHeld.2.2.1);have HS3_:=(hb.cell (af _ _ (hHeld.2.2.2.1))).trans (hHeld.2.2.2.1);have HS4_:=(hb.cell (af _ _ (hHeld.2.2.2.2))).trans (hHeld.2.2.2.2);refine ⟨_,rfl,?_⟩;replace x:=ka (aD (kr x.out) hb);replace s:=ka (aJ (by (with_reducible repeat (first|apply ah|apply ai|apply aj));exact s.out) hb);replace G:=ka (aD (kr G.out) hb);replace d:=kvb d hb;replace HL771_0:=ka (aE (kv HL771_0.out) hb);replace HL772_0:=ka (aE (kv HL772_0.out) hb);replace m:=kbb m hb;replace HR771_0:=ka (bH (by repeat (first|(with_reducible exact HR771_0.out)|(with_reducible refine ax ?_ _)|(with_reducible refine ay ?_ _)|(with_reducible refine aH ?_)|exact HR771_0.out)) hb);replace HR772_0:=ka (bH (by repeat (first|(with_reducible exact HR772_0.out)|(with_reducible refine ax ?_ _)|(with_reducible refine ay ?_ _)|(with_reducible refine aH ?_)|exact HR772_0.out)) hb);replace HB:=ka (az (kw HB.out) hb);(try clear hb);refine hK.out _ _ ⟨HS0_,HS1_,HS2_,HS3_,HS4_⟩ (fun hHeld=>?_);clear hK K;refine bh (a':=?_) ?_ ?_;rotate_left
                       ·show Act.put _ (some 99) _ = _
                        simp only [Act.put,ac,ad,ae,ak,al]
                        rfl
                       refine ap (i:=18) (N:=some 100) (v:=?_) (a':=?_) #[aa,aa,aa,aa,aa,aa,aa,aa,aa,aa,aa,aa,aa,aa,aa,aa,aa,aa,aa,ab,ab] rfl rfl (am HT_.out (by kernel_rfl)) (fun _ _ _ h=>h) (Or.inl ⟨by rfl,?_⟩) ?_ ?_;rotate_left
                       ·intro w';go_simp
                        with_reducible rfl
                       rotate_left
                       ·simp only [Act.put,ac,ad,ae,ak,al]
                        rfl
                       refine ap (i:=19) (N:=some 101) (v:=?_) (a':=?_) #[aa,aa,aa,aa,aa,aa,aa,aa,aa,aa,aa,aa,aa,aa,aa,aa,aa,aa,aa,aa,ab] rfl rfl (am HT_.out (by kernel_rfl)) (fun _ _ _ h=>h) (Or.inl ⟨by rfl,?_⟩) ?_ ?_;rotate_left
                       ·intro w';go_simp
                        with_reducible rfl
                       rotate_left
                       ·simp only [Act.put,ac,ad,ae,ak,al]
                        rfl
                       refine ap (i:=20) (N:=some 102) (v:=?_) (a':=?_) #[aa,aa,aa,aa,aa,aa,aa,aa,aa,aa,aa,aa,aa,aa,aa,aa,aa,aa,aa,aa,aa] rfl rfl (am HT_.out (by kernel_rfl)) (fun _ _ _ h=>h) (Or.inl ⟨by rfl,?_⟩) ?_ ?_;rotate_left
                       ·intro w';go_simp
                        with_reducible rfl
                       rotate_left
                       ·simp only [Act.put,ac,ad,ae,ak,al]
                        rfl
                       refine done_ (bC HT_.out (by kernel_rfl)) ?_;try go_wp2
                       go_roundg k4
                       case measure=>have:=HK1.out;have:=HK2.out;have:=HK3.out;have:=HK4.out;omega
                       case rel=>exact ⟨(x16_4),(wrap64 (x17_4 + 1)),(by first|rfl|(simp;done)|(simp [*];done)),(by first|rfl|(simp;done)|(simp [*];done)),H',⟨by have:=HK1.out;have:=HK2.out;have:=HK3.out;have:=HK4.out;omega⟩,⟨kr x.out⟩,⟨by (with_reducible repeat (first|apply ah|apply ai|apply aj));exact s.out⟩,⟨kr G.out⟩,⟨kv d.out⟩,⟨by (with_reducible repeat (first|apply kb1|apply kb2|apply kb3));exact m.out⟩,⟨by repeat (first|(with_reducible first|exact HB.out|apply kc1|apply kc2|apply kc3|refine kc4 ?_ b2.out)|exact HB.out)⟩⟩
                     ·rw [if_neg c78] at H
                      exact absurd H (by simp)
                    ·rw [if_neg c77] at H
                     exact absurd H (by simp)
                   ·rw [if_neg c76] at H
                    exact absurd H (by simp)
                ·rw [if_neg c68] at H
                 exact absurd H (by simp)
               ·rw [if_neg c67] at H
                exact absurd H (by simp)
              ·rw [if_neg c66] at H
               have c66b0 : decide (x17_4 < (l1.length : Int)) = false:=decide_eq_false c66;clear c66;by_cases c89 : x16_4 < 0
               ·rw [if_pos c89] at H
                have c89b0 : decide (x16_4 < 0) = true:=decide_eq_true c89;clear c89;obtain rfl:=Option.some.inj H;go_wp2
                go_ret
                exact ⟨_,by first|rfl|(simp [errW_none,errW_some] <;> rfl)|(simp [*,errW_none,errW_some] <;> rfl),by (with_reducible repeat (first|apply Kd.R_alloc|apply Kd.R_drewN|apply bf));exact x.out,by repeat (first|(with_reducible first|exact HB.out|apply kc1|apply kc2|apply kc3|refine kc4 ?_ b2.out)|exact HB.out)⟩
               ·rw [if_neg c89] at H
                have c89b0 : decide (x16_4 < 0) = false:=decide_eq_false c89;clear c89;by_cases c90 : 0≤x16_4
                ·rw [if_pos c90] at H
                 have c90b0 : decide (0≤x16_4) = true:=decide_eq_true c90;clear c90;by_cases c91 : x16_4 < (x15_3.length : Int)
                 ·rw [if_pos c91] at H
                  have c91b0 : decide (x16_4 < (x15_3.length : Int)) = true:=decide_eq_true c91;clear c91;obtain ⟨y774,hy774⟩ : ∃ y_ : List Bool,y_ = (x15_3.set (x16_4 : Int).toNat true):=⟨_,rfl⟩
                  replace H : (if x16_4 < (x7_3.length : Int) then (trivetref03_Shares.l2 k4 l1 (x7_3.set (x16_4 : Int).toNat (wrap64 ((rd x7_3 x16_4) + 1))) x8_2 (wrap64 (x9_3 - 1)) y774) else (none)) = some r:=by first|(rw [hy774];with_reducible exact H)|(have H2_:=(aR _ _).symm.trans H;rw [hy774];with_reducible exact H2_)|(have H2_:=(aR _ _).symm.trans H;with_reducible exact H2_)|with_reducible exact H|(rw [hy774];exact H)|exact H
                  have Ny774:=ka hy774;clear hy774;by_cases c93 : x16_4 < (x7_3.length : Int)
                  ·rw [if_pos c93] at H
                   have c93b0 : decide (x16_4 < (x7_3.length : Int)) = true:=decide_eq_true c93;clear c93;obtain ⟨y776,hy776⟩ : ∃ y_ : List Int,y_ = (x7_3.set (x16_4 : Int).toNat (wrap64 ((rd x7_3 x16_4) + 1))):=⟨_,rfl⟩
                   replace H : (trivetref03_Shares.l2 k4 l1 y776 x8_2 (wrap64 (x9_3 - 1)) y774) = some r:=by first|(rw [hy776];with_reducible exact H)|(have H2_:=(aR _ _).symm.trans H;rw [hy776];with_reducible exact H2_)|(have H2_:=(aR _ _).symm.trans H;with_reducible exact H2_)|with_reducible exact H|(rw [hy776];exact H)|exact H
                   have Ny776:=ka hy776;clear hy776;have H':=ka H;clear H;have p92 : 0≤(x16_4 : Int):=of_decide_eq_true (by first|(with_reducible assumption)|assumption);have q92 : (x16_4 : Int) < ((x15_3.length : Int) : Int):=of_decide_eq_true (by first|(with_reducible assumption)|assumption);obtain ⟨go92,d7,m8,m9,gl92,cl92,HG92⟩:=Kd.R_form G.out (by omega);(first|cases m8|(injection m8 with ea_ en_ ec_;(first|subst ea_|(injection ea_ with ea_;subst ea_));subst ec_;clear en_));have GB92:=ka m9;have GG92:=ka HG92;clear m9 gl92 HG92;obtain ⟨hx92_0,hf92_0⟩:=Kd.R_celln false G.out (x16_4 : Int) p92 q92;replace p92:=eq_true p92;replace q92:=eq_true q92;have HP95:=Kd.R_putg G.out (x16_4 : Int) true;go_wp2_with (first|((with_reducible refine gate_store (t:=4) (p:=109) rfl ?_);refine store_event (t:=4) (p:=109) (v:=?vo_w96) (w1:=(wr.setCell ⟨go92,(x16_4 : Int).toNat,none⟩ (.bool true))) ?hg ?ho ?hn ?hr ?_;(case ho=>rfl);(case hg=>rfl);(case hn=>rfl);(case hr=>first|(go_simp;done)|(go_simp;rfl));intro h3 hw;have hg : wr.grownBy h3 (some go92):=(by rw [hw];exact HP95.2);have hp_ : bK Kd.bool 4 h3 w.heap.size (fun _=>True) (.slice (some ⟨go92,0,none⟩) x15_3.length d7) y774:=(by rw [hw,Ny774.out];exact HP95.1);clear HP95;replace x:=ka (Kd.R_over' (v:=(.slice (some ⟨go92,0,none⟩) x15_3.length d7)) (kr x.out) (Kd.R_typed G.out) (by decide) hg);replace s:=ka (Kd.N_afterv (v:=(.slice (some ⟨go92,0,none⟩) x15_3.length d7)) (v1:=(.slice (some ⟨go92,0,none⟩) x15_3.length d7)) (ok:=(fun l=>some l≠(u7 : Value).ownBlock∧l≠u)) (by (with_reducible repeat (first|apply ah|apply ai|apply aj));exact bc s.out (fun _ hk=>⟨⟨hk.1,hk.2.2⟩,hk.2.1⟩)) hg (.inl rfl));replace d:=ka (aV (v:=(.slice (some ⟨go92,0,none⟩) x15_3.length d7)) (v1:=(.slice (some ⟨go92,0,none⟩) x15_3.length d7)) (ok:=(fun l=>some l≠(u7 : Value).ownBlock∧some l≠(u8 : Value).ownBlock∧l≠u)) (kv (ag d.out (fun _ hk=>⟨⟨hk.1,⟨hk.2.1,hk.2.2.2⟩⟩,hk.2.2.1⟩))) hg (.inl rfl));replace m:=ka (bp (g:=u) (kz m.out) hg (bJ G.out m.out (by decide)));replace G:=ka (hp_);replace HB:=ka ((by rw [hw];exact below_set (HB.out) GB92.out : Below w.heap.size w h3));clear hg hw hp_;obtain ⟨w2,e9,q2⟩:=bA x.out;subst q2;have p775 : 0≤(x16_4 : Int):=of_decide_eq_true (by first|(with_reducible assumption)|assumption);have q775 : x16_4 < (x7_3.length : Int):=of_decide_eq_true (by first|(with_reducible assumption)|assumption);obtain ⟨ad775,e775,hx775_0⟩:=Kd.at_int (bw x.out).2.2 x16_4 p775 q775;cases e775;replace p775:=eq_true p775;replace q775:=eq_true q775;have p94 : 0≤(x16_4 : Int):=of_decide_eq_true (by first|(with_reducible assumption)|assumption);have q94 : (x16_4 : Int) < ((x7_3.length : Int) : Int):=of_decide_eq_true (by first|(with_reducible assumption)|assumption);obtain ⟨go94,w4,n0,n1,gl94,cl94,HG94⟩:=Kd.R_form x.out (by omega);(first|cases n0|(injection n0 with ea_ en_ ec_;(first|subst ea_|(injection ea_ with ea_;subst ea_));subst ec_;clear en_));have GB94:=ka n1;have GG94:=ka HG94;clear n1 gl94 HG94;(first|simp only [add_plain] at hx775_0|skip);obtain ⟨hx94_0,hf94_0⟩:=Kd.R_celln 0 x.out (x16_4 : Int) p94 q94;replace p94:=eq_true p94;replace q94:=eq_true q94;obtain ⟨hy98_,hz98_⟩:=Kd.R_celln 0 x.out (x16_4 : Int) (of_decide_eq_true (by first|(with_reducible assumption)|assumption)) (of_decide_eq_true (by first|(with_reducible assumption)|assumption));have HP98:=Kd.R_putg x.out (x16_4 : Int) (wrap64 ((rd x7_3 x16_4) + 1)))|((with_reducible refine gate_store (t:=2) (p:=115) rfl ?_);refine store_event (t:=2) (p:=115) (v:=?vo_w99) (w1:=(h3.setCell ⟨go94,(x16_4 : Int).toNat,none⟩ (.int .i64 (wrap64 ((rd x7_3 x16_4) + 1))))) ?hg ?ho ?hn ?hr ?_;(case ho=>rfl);(case hg=>rfl);(case hn=>rfl);(case hr=>first|(go_simp;done)|(go_simp;rfl));intro n2 hw;have hg : h3.grownBy n2 (some go94):=(by rw [hw];exact HP98.2);have hp_ : bK (aZ .i64) 2 n2 w.heap.size (fun _=>True) (.slice (some ⟨go94,0,none⟩) x7_3.length e9) y776:=(by rw [hw,Ny776.out];exact HP98.1);clear HP98;replace s:=ka (Kd.N_afterv (v:=(.slice (some ⟨go94,0,none⟩) x7_3.length e9)) (v1:=(.slice (some ⟨go94,0,none⟩) x7_3.length e9)) (ok:=(fun l=>some l≠(.slice (some ⟨go92,0,none⟩) x15_3.length d7 : Value).ownBlock∧l≠u)) (by (with_reducible repeat (first|apply ah|apply ai|apply aj));exact bc s.out (fun _ hk=>⟨⟨hk.2,hk.1.2⟩,hk.1.1⟩)) hg (.inl rfl));replace G:=ka (Kd.R_over' (v:=(.slice (some ⟨go94,0,none⟩) x7_3.length e9)) (kr G.out) (Kd.R_typed x.out) (by decide) hg);replace d:=ka (aV (v:=(.slice (some ⟨go94,0,none⟩) x7_3.length e9)) (v1:=(.slice (some ⟨go94,0,none⟩) x7_3.length e9)) (ok:=(fun l=>some l≠(u8 : Value).ownBlock∧some l≠(.slice (some ⟨go92,0,none⟩) x15_3.length d7 : Value).ownBlock∧l≠u)) (kv (ag d.out (fun _ hk=>⟨⟨hk.1.2.1,⟨hk.2,hk.1.2.2⟩⟩,hk.1.1⟩))) hg (.inl rfl));replace m:=ka (bp (g:=u) (kz m.out) hg (bJ x.out m.out (by decide)));replace x:=ka (hp_);replace HB:=ka ((by rw [hw];exact below_set (HB.out) GB94.out : Below w.heap.size w n2));clear hg hw hp_))
                   go_roundg k4
                   case measure=>have:=HK1.out;have:=HK2.out;have:=HK3.out;have:=HK4.out;omega
                   case rel=>exact ⟨(y776),(wrap64 (x9_3 - 1)),(y774),(by first|rfl|(simp;done)|(simp [*];done)),H',⟨by have:=HK1.out;have:=HK2.out;have:=HK3.out;have:=HK4.out;omega⟩,⟨kr x.out⟩,⟨by (with_reducible repeat (first|apply ah|apply ai|apply aj));exact bc s.out (fun _ hk=>⟨hk.2,⟨hk.1.1,hk.1.2⟩⟩)⟩,⟨kr G.out⟩,⟨kv (ag d.out (fun _ hk=>⟨hk.2,⟨hk.1.1,⟨hk.1.2.1,hk.1.2.2⟩⟩⟩))⟩,⟨by (with_reducible repeat (first|apply kb1|apply kb2|apply kb3));exact m.out⟩,⟨by repeat (first|(with_reducible first|exact HB.out|apply kc1|apply kc2|apply kc3|refine kc4 ?_ b2.out)|exact HB.out)⟩⟩
                  ·rw [if_neg c93] at H
                   exact absurd H (by simp)
                 ·rw [if_neg c91] at H
                  exact absurd H (by simp)
                ·rw [if_neg c90] at H
                 exact absurd H (by simp)
           ·rw [if_neg c65] at H
            have c65b0 : decide (0 < x9_3) = false:=decide_eq_false c65;clear c65;obtain rfl:=Option.some.inj H;go_wp2
            go_ret
            exact ⟨_,by first|rfl|(simp [errW_none,errW_some] <;> rfl)|(simp [*,errW_none,errW_some] <;> rfl),by (with_reducible repeat (first|apply Kd.R_alloc|apply Kd.R_drewN|apply bf));exact x.out,by repeat (first|(with_reducible first|exact HB.out|apply kc1|apply kc2|apply kc3|refine kc4 ?_ b2.out)|exact HB.out)⟩
        ·rw [if_neg c62] at H
         exact absurd H (by simp)
       ·rw [if_neg c61] at H
        exact absurd H (by simp)
end Go.Proofs.Ytghimjkoaldafaa.P
