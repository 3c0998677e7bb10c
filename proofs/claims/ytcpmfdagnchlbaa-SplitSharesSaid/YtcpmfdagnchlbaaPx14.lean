-- Written by a program of this session out of the translation of the seat: Lean functions and the proofs that the Go functions come to them.
import Derived.Test.YtcpmfdagnchlbaaPx0
import Derived.Test.YtcpmfdagnchlbaaPx6
import Derived.Test.YtcpmfdagnchlbaaPx7
import Derived.Test.YtcpmfdagnchlbaaPx8
import Derived.Test.YtcpmfdagnchlbaaPx12
import Derived.Test.YtcpmfdagnchlbaaPx13
namespace Go.Proofs.Ytcpmfdagnchlbaa.P
open Go.RowKit Go.Proofs.YtcpmfdagnchlbaaW.PrintWords Go.Proofs.YtcpmfdagnchlbaaW.PrintLast Go.Proofs.YtcpmfdagnchlbaaW.PrintMore
attribute [local go_sem] max2_int min2_int max_two min_two max_three min_three max_four min_four   -- for this text's walks alone
set_option linter.unusedVariables false
set_option linter.unusedSimpArgs false

/-! ### trivetref03_Shares: function 13 -/
mutual
def trivetref03_Shares.l0 : Nat→Int→List Int→Int→List Int→Bool→Option (List Int)
 | 0,_,_,_,_,_=>none
 | k + 1,x0,x1,x6,x648000,x648001=>if x6 < (x1.length : Int) then (if 0≤x6 then ((trivetref01_Of.f k (rd x1 x6)).bind fun h7=>((trivetref01_Add.f k x648000 x648001 h7.1 h7.2).bind fun d9=>(trivetref03_Shares.l0 k x0 x1 (wrap64 (x6 + 1)) d9.1 d9.2))) else (none)) else (trivetref03_Shares.l1 k x0 x1 ([] : List Int) ([] : List (S34)) x0 0 x648000 x648001)
def trivetref03_Shares.l1 : Nat→Int→List Int→List Int→List (S34)→Int→Int→List Int→Bool→Option (List Int)
 | 0,_,_,_,_,_,_,_,_=>none
 | k + 1,x0,x1,x7,x8,x9,x10,x648000,x648001=>if x10 < (x1.length : Int) then ((trivetref01_Of.f k x0).bind fun h8=>(if 0≤x10 then ((trivetref01_Of.f k (rd x1 x10)).bind fun e0=>((trivetref01_Mul.f k h8.1 h8.2 e0.1 e0.2).bind fun b0=>((trivetref01_Quotient.f k b0.1 b0.2 x648000 x648001 1).bind fun a1=>((trivetref01_To.f k a1.1 a1.2).bind fun b1=>(if x7.length < 17592186044416 then ((trivetref01_Mul.f k a1.1 a1.2 x648000 x648001).bind fun Y=>((trivetref01_Neg.f k Y.1 Y.2).bind fun T=>((trivetref01_Add.f k b0.1 b0.2 T.1 T.2).bind fun Q=>(if x8.length < 4398046511104 then (trivetref03_Shares.l1 k x0 x1 (x7 ++ [b1.1]) (x8 ++ [(⟨Q.1,Q.2⟩ : S34)]) (wrap64 (x9 - b1.1)) (wrap64 (x10 + 1)) x648000 x648001) else (none))))) else (none)))))) else (none))) else (if 0≤(x1.length : Int) then (if ((x1.length : Int) : Int).toNat≤281474976710656 then (trivetref03_Shares.l2 k x1 x7 x8 x9 (List.replicate ((x1.length : Int) : Int).toNat false)) else (none)) else (none))
def trivetref03_Shares.l2 : Nat→List Int→List Int→List (S34)→Int→List Bool→Option (List Int)
 | 0,_,_,_,_,_=>none
 | k + 1,x1,x7,x8,x9,x15=>if x9 > 0 then (trivetref03_Shares.l3 k x1 x7 x8 x9 x15 (-1) 0) else (some x7)
def trivetref03_Shares.l3 : Nat→List Int→List Int→List (S34)→Int→List Bool→Int→Int→Option (List Int)
 | 0,_,_,_,_,_,_,_=>none
 | k + 1,x1,x7,x8,x9,x15,x16,x17=>if x17 < (x1.length : Int) then (if 0≤x17 then (if x17 < (x15.length : Int) then (if rdOf false x15 x17 = true then (trivetref03_Shares.l3 k x1 x7 x8 x9 x15 x16 (wrap64 (x17 + 1))) else (if x16 < 0 then (trivetref03_Shares.l3 k x1 x7 x8 x9 x15 x17 (wrap64 (x17 + 1))) else (if x17 < (x8.length : Int) then (if 0≤x16 then (if x16 < (x8.length : Int) then ((trivetref01_Cmp.f k ((rd_T34 x8 x17).f0) ((rd_T34 x8 x17).f1) ((rd_T34 x8 x16).f0) ((rd_T34 x8 x16).f1)).bind fun c0=>(if c0 > 0 then (trivetref03_Shares.l3 k x1 x7 x8 x9 x15 x17 (wrap64 (x17 + 1))) else (trivetref03_Shares.l3 k x1 x7 x8 x9 x15 x16 (wrap64 (x17 + 1))))) else (none)) else (none)) else (none)))) else (none)) else (none)) else (if x16 < 0 then (some x7) else (if 0≤x16 then (if x16 < (x15.length : Int) then (if x16 < (x7.length : Int) then (trivetref03_Shares.l2 k x1 (x7.set (x16 : Int).toNat (wrap64 ((rd x7 x16) + 1))) x8 (wrap64 (x9 - 1)) (x15.set (x16 : Int).toNat true)) else (none)) else (none)) else (none)))
end
def trivetref03_Shares.f (k : Nat) (a0 : Int) (l1 : List Int) : Option (List Int):=trivetref03_Shares.l0 k a0 l1 0 ([] : List Int) false
def trivetref03_Shares.T5 : Bool × List (List Nat × List Nat):=(true,[([],[]),([],[]),([],[]),([1,2],[1,2]),([3],[3]),([4],[4]),([0,5,5],[0,5]),([6,6,0,1,2,3,4,5,6],[6])])
def trivetref03_Shares.B5 : List Nat:=[0,0,0,6,14,30,63,127]
theorem trivetref03_Shares.tab5 : rtab .any (opsOf Try.f13 5) = trivetref03_Shares.T5:=by kernel_rfl
theorem trivetref03_Shares.bits5 : waitsOk trivetref03_Shares.T5.2 trivetref03_Shares.B5 = true:=by kernel_rfl
def trivetref03_Shares.T12 : Bool × List (List Nat × List Nat):=(true,[([],[]),([0],[0]),([],[]),([],[]),([2,3],[2,3]),([4],[4]),([5,1],[5]),([1,6,6],[1,6]),([],[]),([8,7,7,0,1,2,3,4,5,6,7,8],[7,8])])
def trivetref03_Shares.B12 : List Nat:=[0,1,0,0,12,28,63,127,0,511]
theorem trivetref03_Shares.tab12 : rtab .any (opsOf Try.f13 12) = trivetref03_Shares.T12:=by kernel_rfl
theorem trivetref03_Shares.bits12 : waitsOk trivetref03_Shares.T12.2 trivetref03_Shares.B12 = true:=by kernel_rfl
def trivetref03_Shares.T16 : Bool × List (List Nat × List Nat):=(true,[([],[]),([],[]),([],[]),([],[]),([2,3],[2,3]),([4,4],[4]),([1,5,5],[1,5]),([6],[6]),([0,7,6],[0,7]),([8,8,0,1,2,3,4,5,6,7,8],[0,8])])
def trivetref03_Shares.B16 : List Nat:=[0,0,0,0,12,28,62,126,255,511]
theorem trivetref03_Shares.tab16 : rtab .any (opsOf Try.f13 16) = trivetref03_Shares.T16:=by kernel_rfl
theorem trivetref03_Shares.bits16 : waitsOk trivetref03_Shares.T16.2 trivetref03_Shares.B16 = true:=by kernel_rfl
def trivetref03_Shares.T24 : Bool × List (List Nat × List Nat):=(true,[([],[]),([],[]),([0,1],[0,1]),([2],[2]),([3],[3]),([4],[4]),([5],[5]),([6,5],[5,6]),([7,5,5],[5,7]),([8],[8]),([8],[8]),([9,10,8],[8,9,10]),([11,8],[8,11]),([8],[8]),([8],[8]),([13,14,8],[8,13,14]),([15,8],[8,15]),([12,16,8,8],[8,12,16]),([17,8],[8,17]),([8,18,5],[5,8,18]),([5,19],[5,19])])
def trivetref03_Shares.B24 : List Nat:=[0,0,3,7,15,31,63,127,255,511,511,2047,4095,511,511,25087,57855,131071,262143,524287,1048575]
theorem trivetref03_Shares.tab24 : rtab .any (opsOf Try.f13 24) = trivetref03_Shares.T24:=by kernel_rfl
theorem trivetref03_Shares.bits24 : waitsOk trivetref03_Shares.T24.2 trivetref03_Shares.B24 = true:=by kernel_rfl
set_option maxHeartbeats 8000000 in
set_option maxRecDepth 100000 in
theorem trivetref03_Shares.calls (k : Nat) (a0 : Int) (A1 : Option Addr) (c1 : Nat) (l1 : List Int) (r : List Int) (w : World) (hr1 : Kd.C (Kd.int .i64) w A1 l1.length l1) (hc1 : l1.length≤c1) (h : trivetref03_Shares.f k a0 l1 = some r) :
  Calls Try.prog 13 #[.int .i64 a0,.slice A1 l1.length c1] w fun e w'=>∃ v0_ : Value,e = .returned (v0_)∧Kd.R (Kd.int .i64) 2 w' w.heap.size (fun _=>True) v0_ r∧Below w.heap.size w w':=by
 have hu34:=Try.underlying34;have HR1:=ka hr1;have w4:=ka hc1;clear hr1 hc1;have HB:=ka (Below.refl w.heap.size w);have H : (trivetref03_Shares.l0 k a0 l1 0 ([] : List Int) false) = some r:=h;clear h;have H':=ka H;clear H;go_enter Try.func13,Try.ntmps13
 go_wp2_with (first|((with_reducible refine gate_dst (N:=5) rfl ?_);refine kx (N:=5) (cs:=#[.slice none 0 0,.bool false]) (t:=34) ?_;intro u hg w3 hbox hb;have e1:=ka (below_step (kw HB.out) hb);have e2:=ka (hbox);have d8:=ka ((by rw [hg];exact (below_size (kw HB.out)) : w.heap.size≤u));have e3:=d8;clear HB;have HB:=e1;have m:=e2;have r5:=d8;have b2:=e3;clear e1 e2 d8 e3;clear hb hbox hg;have i4:=blkAll2 m.out))
 (try simp only [Act.put,List.setIfInBounds_toArray,List.set_cons_zero,List.set_cons_succ]);go_loopg [6] k (fun kq v6 w'=>∃ (x6_1 : Int) (A : List Int) (z : Bool) (W : Value),v6 = .int .i64 x6_1∧Aside0 (trivetref03_Shares.l0 kq a0 l1 x6_1 A z = some r)∧Aside0 (kq≤k)∧Aside0 (Kd.V (Kd.int .u64) 42 w' w.heap.size (fun l=>l≠u) W A)∧Aside0 (w'.heap[u]? = some (.cells #[W,.bool z] 34 (0,0)))∧Aside0 (Below w.heap.size w w'))
 case atStart=>exact ⟨(0),(([] : List Int)),(false),(.slice none 0 0),(by first|rfl|(simp;done)|(simp [*];done)),H',⟨Nat.le_refl _⟩,⟨Kd.V_nil _ _ _ _ _⟩,⟨by (with_reducible repeat (first|apply kb1|apply kb2|apply kb3|apply blkPut2_1|apply blkPut2_0));exact m.out⟩,⟨by repeat (first|(with_reducible first|exact HB.out|apply kc1|apply kc2|apply kc3|refine kc4 ?_ b2.out)|exact HB.out)⟩⟩
 case round=>
  clear H';try clear c1
  try clear p2
  try clear i4
  obtain ⟨x6_1,A,z,W,rfl,HA,HK1,d,m,HB⟩:=hrel;cases gk with
  | zero=>exact absurd HA.out (by simp [trivetref03_Shares.l0])
  | succ k1=>
   have H:=HA.out;clear HA;simp only [trivetref03_Shares.l0] at H
   by_cases c5 : x6_1 < (l1.length : Int)
   ·rw [if_pos c5] at H
    have c5b0 : decide (x6_1 < (l1.length : Int)) = true:=decide_eq_true c5;clear c5;by_cases c6 : 0≤x6_1
    ·rw [if_pos c6] at H
     have c6b0 : decide (0≤x6_1) = true:=decide_eq_true c6;clear c6;replace H:=Option.bind_eq_some_iff.mp H;obtain ⟨⟨g1,g2⟩,n7,H⟩:=H;replace H : ((trivetref01_Add.f k1 A z g1 g2).bind fun d9=>(trivetref03_Shares.l0 k1 a0 l1 (wrap64 (x6_1 + 1)) d9.1 d9.2)) = some r:=H;have A7:=ka n7;clear n7;replace H:=Option.bind_eq_some_iff.mp H;obtain ⟨⟨f4,g3⟩,n8,H⟩:=H;replace H : (trivetref03_Shares.l0 k1 a0 l1 (wrap64 (x6_1 + 1)) f4 g3) = some r:=H;have A8:=ka n8;clear n8;have H':=ka H;clear H;try go_wp2
     replace d:=ka (Kd.V_drew d.out);replace m:=ka (blk_drew m.out);replace HB:=ka (below_drew1 HB.out);have p648 : 0≤(x6_1 : Int):=of_decide_eq_true (by first|(with_reducible assumption)|assumption);have q648 : x6_1 < (l1.length : Int):=of_decide_eq_true (by first|(with_reducible assumption)|assumption);obtain ⟨ad648,e648,hx648_0⟩:=Kd.at_int HR1.out x6_1 p648 q648;have hw648_0:=hx648_0;cases e648
     replace hx648_0:=(HB.out.cell (World.block_lt_of_cell? w _ hx648_0)).trans hx648_0;replace p648:=eq_true p648;replace q648:=eq_true q648;refine start_ (n:=8) (S:=fun w'=>w'.cell? ⟨u,0,none⟩ = some (W)∧w'.cell? ⟨u,1,none⟩ = some (.bool z)∧w'.cell? (ad648.add (x6_1).toNat) = some (.int .i64 (rd l1 x6_1))) (ds:=[7]) #[false,false,false,false,false,false,false,false] (by kernel_rfl) rfl rfl ⟨(blk_cell m.out 0).trans rfl,(blk_cell m.out 1).trans rfl,((HB.out.cell (World.block_lt_of_cell? w _ hw648_0)).trans hw648_0)⟩ (fun hHeld=>?_);refine with_tabW trivetref03_Shares.tab5 trivetref03_Shares.bits5 (fun HT_ HW_=>?_);generalize wr.drew = w9 at d m HB hx648_0 hHeld ⊢;refine pure_ (i:=1) (N:=some 26) (v:=?_) (a':=?_) #[false,true,false,false,false,false,false,false] rfl rfl (any_of HT_.out (by kernel_rfl)) (fun _ _ _ h=>h) (Or.inl ⟨by rfl,?_⟩) ?_ ?_;rotate_left
     ·intro w';go_simp
      with_reducible rfl
     rotate_left
     ·simp only [Act.put,List.setIfInBounds_toArray,List.set_cons_zero,List.set_cons_succ,i64_w,i32_w]
      rfl
     refine pure_ (i:=2) (N:=some 27) (v:=?_) (a':=?_) #[false,true,true,false,false,false,false,false] rfl rfl (any_of HT_.out (by kernel_rfl)) (fun _ _ _ h=>h) (Or.inl ⟨by rfl,?_⟩) ?_ ?_;rotate_left
     ·intro w';go_simp
      with_reducible rfl
     rotate_left
     ·simp only [Act.put,List.setIfInBounds_toArray,List.set_cons_zero,List.set_cons_succ,i64_w,i32_w]
      rfl
     refine pure_ (i:=3) (N:=some 28) (v:=?_) (a':=?_) #[false,true,true,true,false,false,false,false] rfl rfl (any_of HT_.out (by kernel_rfl)) (fun _ _ _ h=>h) (Or.inl ⟨by rfl,?_⟩) ?_ ?_;rotate_left
     ·intro w';go_simp
      with_reducible rfl
     rotate_left
     ·simp only [Act.put,List.setIfInBounds_toArray,List.set_cons_zero,List.set_cons_succ,i64_w,i32_w]
      rfl
     refine take_ (i:=0) (N:=some 25) (v:=?_) (a':=?_) #[true,true,true,true,false,false,false,false] rfl rfl (take_ofW HT_.out HW_.out (by kernel_rfl)) (fun _ _ _ h=>h) (Or.inl ⟨by rfl,?_⟩) hHeld ?_ ?_;rotate_left
     ·rintro w' ⟨s0,s1,s2⟩;go_simp
      with_reducible rfl
     rotate_left
     ·simp only [Act.put,List.setIfInBounds_toArray,List.set_cons_zero,List.set_cons_succ,i64_w,i32_w]
      rfl
     refine take_ (i:=4) (N:=some 29) (v:=?_) (a':=?_) #[true,true,true,true,true,false,false,false] rfl rfl (take_ofW HT_.out HW_.out (by kernel_rfl)) (fun _ _ _ h=>h) (Or.inl ⟨by rfl,?_⟩) hHeld ?_ ?_;rotate_left
     ·rintro w' ⟨s0,s1,s2⟩;go_simp
      with_reducible rfl
     rotate_left
     ·simp only [Act.put,List.setIfInBounds_toArray,List.set_cons_zero,List.set_cons_succ,i64_w,i32_w]
      rfl
     refine one_ (i:=5) (N:=some 30) #[true,true,true,true,true,true,false,false] rfl rfl (one_of HT_.out (by kernel_rfl)) (by decide) (fun K hK=>?_);refine goes_ Try.func15 (by kernel_rfl) rfl #[.int .i64 (rd l1 x6_1)] (by rfl) rfl rfl (by (try simp only [List.map_toArray,List.map_cons,List.map_nil]);first|done|rfl|(simp only [List.length_drop,List.length_take];rfl)) ?_;with_reducible refine (trivetref01_Of.calls k1 (rd l1 x6_1) g1 g2 _ A7.out).mono ?_
     rintro e w5 ⟨t2,rfl,ho0,hb⟩;refine ⟨_,rfl,?_⟩;replace d:=kvb d hb;have e4:=ka (Kd.V_lower (Kd.V_mono (ok':=fun l=>l≠u) ho0 (fun l F=>(kf m F))) (below_size (kw HB.out)));replace m:=kbb m hb;replace HB:=ka (below_step (kw HB.out) hb);(try clear hb);(try clear hb2);(try clear hk);(try clear hi);(try clear ho0);obtain ⟨i5,i6,i7⟩:=Kd.V_slice d.out;(first|subst i7|(injection i7 with f1_ f2_ f3_;have f4_:=f1_.symm;have f5_:=f3_.symm;clear f1_ f2_ f3_;subst f4_;subst f5_));obtain ⟨o5,o6,i8⟩:=Kd.V_slice e4.out;(first|subst i8|(injection i8 with f1_ f2_ f3_;have f4_:=f1_.symm;have f5_:=f3_.symm;clear f1_ f2_ f3_;subst f4_;subst f5_));refine hK.out _ _ ⟨(blk_cell m.out 0).trans rfl,(blk_cell m.out 1).trans rfl,((HB.out.cell (World.block_lt_of_cell? w _ hw648_0)).trans hw648_0)⟩ (fun hHeld=>?_);clear hK K;refine norm_ (a':=?_) ?_ ?_;rotate_left
     ·show Act.put _ (some 30) _ = _
      simp only [Act.put,List.setIfInBounds_toArray,List.set_cons_zero,List.set_cons_succ,i64_w,i32_w]
      rfl
     refine one_ (i:=6) (N:=some 31) #[true,true,true,true,true,true,true,false] rfl rfl (one_of HT_.out (by kernel_rfl)) (by decide) (fun K hK=>?_);refine goes_ Try.func16 (by kernel_rfl) rfl #[.agg #[.slice i5 A.length i6,.bool z],.agg #[.slice o5 g1.length o6,.bool g2]] (by rfl) rfl rfl (by (try simp only [List.map_toArray,List.map_cons,List.map_nil]);first|done|rfl|(simp only [List.length_drop,List.length_take];rfl)) ?_;with_reducible refine (trivetref01_Add.calls k1 _ _ A z _ _ g1 g2 f4 g3 _ ?side1 ?side2 ?side3 ?side4 A8.out).mono ?_
     (case side1=>repeat (first|exact (Kd.V_reads' d.out).2.2|(with_reducible refine Kd.C_alloc ?_ _)|(with_reducible refine Kd.C_drewN ?_ _)|(with_reducible refine Kd.C_drew ?_)));(case side2=>exact (Kd.V_reads' d.out).2.1);(case side3=>repeat (first|exact (Kd.V_reads' e4.out).2.2|(with_reducible refine Kd.C_alloc ?_ _)|(with_reducible refine Kd.C_drewN ?_ _)|(with_reducible refine Kd.C_drew ?_)));(case side4=>exact (Kd.V_reads' e4.out).2.1);rintro e n9 ⟨t3,rfl,ho0,hb⟩;refine ⟨_,rfl,?_⟩;replace d:=kvb d hb;replace e4:=kvb e4 hb;have h9:=ka (Kd.V_lower (Kd.V_mono (ok':=fun l=>l≠u) ho0 (fun l F=>(kf m F))) (below_size (kw HB.out)));replace m:=kbb m hb;replace HB:=ka (below_step (kw HB.out) hb);(try clear hb);(try clear hb2);(try clear hk);(try clear hi);(try clear ho0);obtain ⟨i9,j0,j1⟩:=Kd.V_slice h9.out;(first|subst j1|(injection j1 with f1_ f2_ f3_;have f4_:=f1_.symm;have f5_:=f3_.symm;clear f1_ f2_ f3_;subst f4_;subst f5_));refine hK.out _ _ ⟨(blk_cell m.out 0).trans rfl,(blk_cell m.out 1).trans rfl,((HB.out.cell (World.block_lt_of_cell? w _ hw648_0)).trans hw648_0)⟩ (fun hHeld=>?_);clear hK K;refine norm_ (a':=?_) ?_ ?_;rotate_left
     ·show Act.put _ (some 31) _ = _
      simp only [Act.put,List.setIfInBounds_toArray,List.set_cons_zero,List.set_cons_succ,i64_w,i32_w]
      rfl
     refine last_ (i:=7) (N:=none) #[true,true,true,true,true,true,true,true] rfl rfl (one_of HT_.out (by kernel_rfl)) (by decide) (fun K hK=>?_);have hs15 : n9.cell? ⟨u,0,none⟩ = some (.slice i5 A.length i6):=(blk_cell m.out 0).trans rfl;have hfs15:=blk_frozen m.out 0;have hs16 : n9.cell? ⟨u,1,none⟩ = some (.bool z):=(blk_cell m.out 1).trans rfl;have hfs16:=blk_frozen m.out 1;refine skip_ (w1:=?_) (by rfl) rfl ?_ ?_;rotate_left
     ·go_simp
      rfl
     refine hK.out _ _ ?_;clear hK K;refine done_ (done_of HT_.out (by kernel_rfl)) ?_;try go_wp2
     go_roundg k1
     case measure=>have:=HK1.out;omega
     case rel=>exact ⟨(wrap64 (x6_1 + 1)),(f4),(g3),(.slice i9 f4.length j0),(by first|rfl|(simp;done)|(simp [*];done)),H',⟨by have:=HK1.out;omega⟩,⟨kv (Kd.V_mono (Kd.V_far (p:=⟨u,1,none⟩) (Kd.V_far (p:=⟨u,0,none⟩) (Kd.V_mono h9.out (fun l hk=>(⟨hk,hk⟩ : _∧l≠u))) (fun _ hk=>hk.2) (.slice i9 f4.length j0)) (fun _ hk=>hk.2) (.bool g3)) (fun _ hk=>hk.1))⟩,⟨by (with_reducible repeat (first|apply kb1|apply kb2|apply kb3|apply blkPut2_1|apply blkPut2_0));exact m.out⟩,⟨by repeat (first|(with_reducible first|exact HB.out|apply kc1|apply kc2|apply kc3|refine kc4 ?_ b2.out)|exact HB.out)⟩⟩
    ·rw [if_neg c6] at H
     exact absurd H (by simp)
   ·rw [if_neg c5] at H
    have c5b0 : decide (x6_1 < (l1.length : Int)) = false:=decide_eq_false c5;clear c5;have H':=ka H;clear H;go_wp2
    (try simp only [Act.put,List.setIfInBounds_toArray,List.set_cons_zero,List.set_cons_succ]);go_loopg [7,8,9,10] k1 (fun kq v7 v8 v9 q4 w'=>∃ (x7_2 : List Int) (x8_2 : List (S34)) (x9_2 : Int) (x10_2 : Int),v9 = .int .i64 x9_2∧q4 = .int .i64 x10_2∧Aside0 (trivetref03_Shares.l1 kq a0 l1 x7_2 x8_2 x9_2 x10_2 A z = some r)∧Aside0 (kq≤k1)∧Aside0 (Kd.R (Kd.int .i64) 2 w' w.heap.size (fun _=>True) v7 x7_2)∧Aside0 (Kd.N k34 34 w' w.heap.size (fun l=>some l≠(v7 : Value).ownBlock∧l≠u) v8 x8_2)∧Aside0 (Kd.V (Kd.int .u64) 42 w' w.heap.size (fun l=>some l≠(v7 : Value).ownBlock∧some l≠(v8 : Value).ownBlock∧l≠u) W A)∧Aside0 (w'.heap[u]? = some (.cells #[W,.bool z] 34 (0,0)))∧Aside0 (Below w.heap.size w w'))
    case atStart=>exact ⟨(([] : List Int)),(([] : List (S34))),(a0),(0),(by first|rfl|(simp;done)|(simp [*];done)),(by first|rfl|(simp;done)|(simp [*];done)),H',⟨Nat.le_refl _⟩,⟨by first|exact Kd.R_nil _ _ _ _ _|exact Kd.N_nil _ _ _ _ _|exact Kd.V_nil _ _ _ _ _|exact Kd.Q_nil _ _ _ _ _|exact Kd.S_nil _ _ _ _ _⟩,⟨by first|exact Kd.S_nil _ _ _ _ _|exact Kd.N_nil _ _ _ _ _|exact Kd.V_nil _ _ _ _ _|exact Kd.Q_nil _ _ _ _ _|exact Kd.R_nil _ _ _ _ _⟩,⟨kv (Kd.V_mono d.out (fun _ hk=>⟨(by simp [Value.ownBlock]),⟨(by simp [Value.ownBlock]),hk⟩⟩))⟩,⟨by (with_reducible repeat (first|apply kb1|apply kb2|apply kb3));exact m.out⟩,⟨by repeat (first|(with_reducible first|exact HB.out|apply kc1|apply kc2|apply kc3|refine kc4 ?_ b2.out)|exact HB.out)⟩⟩
    case round=>
     clear H';try clear c1
     try clear p2
     try clear c5
     try clear c5b0
     try clear c6
     try clear c6b0
     try clear p6
     try clear q6
     try clear hx6
     try clear c13
     try clear c15
     try clear c16
     try clear i4
     try clear hx648_0
     try clear p2
     try clear p648
     try clear q648
     obtain ⟨x7_2,x8_2,x9_2,x10_2,rfl,rfl,HA,HK2,x,s,d,m,HB⟩:=hrel;cases gk with
     | zero=>exact absurd HA.out (by simp [trivetref03_Shares.l1])
     | succ k2=>
      have H:=HA.out;clear HA;simp only [trivetref03_Shares.l1] at H
      by_cases c17 : x10_2 < (l1.length : Int)
      ·rw [if_pos c17] at H
       have c17b0 : decide (x10_2 < (l1.length : Int)) = true:=decide_eq_true c17;clear c17;replace H:=Option.bind_eq_some_iff.mp H;obtain ⟨⟨a7,b5⟩,j2,H⟩:=H;replace H : (if 0≤x10_2 then ((trivetref01_Of.f k2 (rd l1 x10_2)).bind fun e0=>((trivetref01_Mul.f k2 a7 b5 e0.1 e0.2).bind fun b0=>((trivetref01_Quotient.f k2 b0.1 b0.2 A z 1).bind fun a1=>((trivetref01_To.f k2 a1.1 a1.2).bind fun b1=>(if x7_2.length < 17592186044416 then ((trivetref01_Mul.f k2 a1.1 a1.2 A z).bind fun Y=>((trivetref01_Neg.f k2 Y.1 Y.2).bind fun T=>((trivetref01_Add.f k2 b0.1 b0.2 T.1 T.2).bind fun Q=>(if x8_2.length < 4398046511104 then (trivetref03_Shares.l1 k2 a0 l1 (x7_2 ++ [b1.1]) (x8_2 ++ [(⟨Q.1,Q.2⟩ : S34)]) (wrap64 (x9_2 - b1.1)) (wrap64 (x10_2 + 1)) A z) else (none))))) else (none)))))) else (none)) = some r:=H;have o0:=ka j2;clear j2;by_cases c19 : 0≤x10_2
       ·rw [if_pos c19] at H
        have c19b0 : decide (0≤x10_2) = true:=decide_eq_true c19;clear c19;replace H:=Option.bind_eq_some_iff.mp H;obtain ⟨⟨a8,b6⟩,j3,H⟩:=H;replace H : ((trivetref01_Mul.f k2 a7 b5 a8 b6).bind fun b0=>((trivetref01_Quotient.f k2 b0.1 b0.2 A z 1).bind fun a1=>((trivetref01_To.f k2 a1.1 a1.2).bind fun b1=>(if x7_2.length < 17592186044416 then ((trivetref01_Mul.f k2 a1.1 a1.2 A z).bind fun Y=>((trivetref01_Neg.f k2 Y.1 Y.2).bind fun T=>((trivetref01_Add.f k2 b0.1 b0.2 T.1 T.2).bind fun Q=>(if x8_2.length < 4398046511104 then (trivetref03_Shares.l1 k2 a0 l1 (x7_2 ++ [b1.1]) (x8_2 ++ [(⟨Q.1,Q.2⟩ : S34)]) (wrap64 (x9_2 - b1.1)) (wrap64 (x10_2 + 1)) A z) else (none))))) else (none))))) = some r:=H;have j4:=ka j3;clear j3;replace H:=Option.bind_eq_some_iff.mp H;obtain ⟨⟨L,O⟩,j5,H⟩:=H;replace H : ((trivetref01_Quotient.f k2 L O A z 1).bind fun a1=>((trivetref01_To.f k2 a1.1 a1.2).bind fun b1=>(if x7_2.length < 17592186044416 then ((trivetref01_Mul.f k2 a1.1 a1.2 A z).bind fun Y=>((trivetref01_Neg.f k2 Y.1 Y.2).bind fun T=>((trivetref01_Add.f k2 L O T.1 T.2).bind fun Q=>(if x8_2.length < 4398046511104 then (trivetref03_Shares.l1 k2 a0 l1 (x7_2 ++ [b1.1]) (x8_2 ++ [(⟨Q.1,Q.2⟩ : S34)]) (wrap64 (x9_2 - b1.1)) (wrap64 (x10_2 + 1)) A z) else (none))))) else (none)))) = some r:=H;have i0:=ka j5;clear j5;replace H:=Option.bind_eq_some_iff.mp H;obtain ⟨⟨a6,a9⟩,j6,H⟩:=H;replace H : ((trivetref01_To.f k2 a6 a9).bind fun b1=>(if x7_2.length < 17592186044416 then ((trivetref01_Mul.f k2 a6 a9 A z).bind fun Y=>((trivetref01_Neg.f k2 Y.1 Y.2).bind fun T=>((trivetref01_Add.f k2 L O T.1 T.2).bind fun Q=>(if x8_2.length < 4398046511104 then (trivetref03_Shares.l1 k2 a0 l1 (x7_2 ++ [b1.1]) (x8_2 ++ [(⟨Q.1,Q.2⟩ : S34)]) (wrap64 (x9_2 - b1.1)) (wrap64 (x10_2 + 1)) A z) else (none))))) else (none))) = some r:=H;have q5:=ka j6;clear j6;replace H:=Option.bind_eq_some_iff.mp H;obtain ⟨⟨c3,o9⟩,j7,H⟩:=H;replace H : (if x7_2.length < 17592186044416 then ((trivetref01_Mul.f k2 a6 a9 A z).bind fun Y=>((trivetref01_Neg.f k2 Y.1 Y.2).bind fun T=>((trivetref01_Add.f k2 L O T.1 T.2).bind fun Q=>(if x8_2.length < 4398046511104 then (trivetref03_Shares.l1 k2 a0 l1 (x7_2 ++ [c3]) (x8_2 ++ [(⟨Q.1,Q.2⟩ : S34)]) (wrap64 (x9_2 - c3)) (wrap64 (x10_2 + 1)) A z) else (none))))) else (none)) = some r:=H;have q7:=ka j7;clear j7;by_cases c24 : x7_2.length < 17592186044416
        ·rw [if_pos c24] at H
         have LMc24:=ka c24;clear c24;obtain ⟨y678,hy678⟩ : ∃ y_ : List Int,y_ = (x7_2 ++ [c3]):=⟨_,rfl⟩
         replace H : ((trivetref01_Mul.f k2 a6 a9 A z).bind fun Y=>((trivetref01_Neg.f k2 Y.1 Y.2).bind fun T=>((trivetref01_Add.f k2 L O T.1 T.2).bind fun Q=>(if x8_2.length < 4398046511104 then (trivetref03_Shares.l1 k2 a0 l1 y678 (x8_2 ++ [(⟨Q.1,Q.2⟩ : S34)]) (wrap64 (x9_2 - c3)) (wrap64 (x10_2 + 1)) A z) else (none))))) = some r:=by first|(rw [hy678];with_reducible exact H)|(have H2_:=(Option.bind_some _ _).symm.trans H;rw [hy678];with_reducible exact H2_)|(have H2_:=(Option.bind_some _ _).symm.trans H;with_reducible exact H2_)|with_reducible exact H|(rw [hy678];exact H)|exact H
         have Ny678:=ka hy678;clear hy678;replace H:=Option.bind_eq_some_iff.mp H;obtain ⟨⟨g4,g5⟩,j8,H⟩:=H;replace H : ((trivetref01_Neg.f k2 g4 g5).bind fun T=>((trivetref01_Add.f k2 L O T.1 T.2).bind fun Q=>(if x8_2.length < 4398046511104 then (trivetref03_Shares.l1 k2 a0 l1 y678 (x8_2 ++ [(⟨Q.1,Q.2⟩ : S34)]) (wrap64 (x9_2 - c3)) (wrap64 (x10_2 + 1)) A z) else (none)))) = some r:=H;have q8:=ka j8;clear j8;replace H:=Option.bind_eq_some_iff.mp H;obtain ⟨⟨g6,g7⟩,j9,H⟩:=H;replace H : ((trivetref01_Add.f k2 L O g6 g7).bind fun Q=>(if x8_2.length < 4398046511104 then (trivetref03_Shares.l1 k2 a0 l1 y678 (x8_2 ++ [(⟨Q.1,Q.2⟩ : S34)]) (wrap64 (x9_2 - c3)) (wrap64 (x10_2 + 1)) A z) else (none))) = some r:=H;have q9:=ka j9;clear j9;replace H:=Option.bind_eq_some_iff.mp H;obtain ⟨⟨e6,e7⟩,k0,H⟩:=H;replace H : (if x8_2.length < 4398046511104 then (trivetref03_Shares.l1 k2 a0 l1 y678 (x8_2 ++ [(⟨e6,e7⟩ : S34)]) (wrap64 (x9_2 - c3)) (wrap64 (x10_2 + 1)) A z) else (none)) = some r:=H;have r0:=ka k0;clear k0;by_cases c28 : x8_2.length < 4398046511104
         ·rw [if_pos c28] at H
          have LMc28:=ka c28;clear c28;obtain ⟨y693,hy693⟩ : ∃ y_ : List (S34),y_ = (x8_2 ++ [(⟨e6,e7⟩ : S34)]):=⟨_,rfl⟩
          replace H : (trivetref03_Shares.l1 k2 a0 l1 y678 y693 (wrap64 (x9_2 - c3)) (wrap64 (x10_2 + 1)) A z) = some r:=by first|(rw [hy693];with_reducible exact H)|(have H2_:=(Option.bind_some _ _).symm.trans H;rw [hy693];with_reducible exact H2_)|(have H2_:=(Option.bind_some _ _).symm.trans H;with_reducible exact H2_)|with_reducible exact H|(rw [hy693];exact H)|exact H
          have Ny693:=ka hy693;clear hy693;have H':=ka H;clear H;try go_wp2
          replace x:=ka (Kd.R_drew x.out);replace s:=ka (Kd.N_drew s.out);replace d:=ka (Kd.V_drew d.out);replace m:=ka (blk_drew m.out);replace HB:=ka (below_drew1 HB.out);have p661 : 0≤(x10_2 : Int):=of_decide_eq_true (by first|(with_reducible assumption)|assumption);have q661 : x10_2 < (l1.length : Int):=of_decide_eq_true (by first|(with_reducible assumption)|assumption);obtain ⟨ad661,e661,hx661_0⟩:=Kd.at_int HR1.out x10_2 p661 q661;have hw661_0:=hx661_0;cases e661
          replace hx661_0:=(HB.out.cell (World.block_lt_of_cell? w _ hx661_0)).trans hx661_0;replace p661:=eq_true p661;replace q661:=eq_true q661;refine start_ (n:=10) (S:=fun w'=>w'.cell? (ad661.add (x10_2).toNat) = some (.int .i64 (rd l1 x10_2))) (ds:=[]) #[false,false,false,false,false,false,false,false,false,false] (by kernel_rfl) rfl rfl (((HB.out.cell (World.block_lt_of_cell? w _ hw661_0)).trans hw661_0)) (fun hHeld=>?_);refine with_tabW trivetref03_Shares.tab12 trivetref03_Shares.bits12 (fun HT_ HW_=>?_);generalize wr.drew = w6 at x s d m HB hx661_0 hHeld ⊢;refine pure_ (i:=0) (N:=some 39) (v:=?_) (a':=?_) #[true,false,false,false,false,false,false,false,false,false] rfl rfl (any_of HT_.out (by kernel_rfl)) (fun _ _ _ h=>h) (Or.inl ⟨by rfl,?_⟩) ?_ ?_;rotate_left
          ·intro w';go_simp
           with_reducible rfl
          rotate_left
          ·simp only [Act.put,List.setIfInBounds_toArray,List.set_cons_zero,List.set_cons_succ,i64_w,i32_w]
           rfl
          refine pure_ (i:=2) (N:=some 41) (v:=?_) (a':=?_) #[true,false,true,false,false,false,false,false,false,false] rfl rfl (any_of HT_.out (by kernel_rfl)) (fun _ _ _ h=>h) (Or.inl ⟨by rfl,?_⟩) ?_ ?_;rotate_left
          ·intro w';go_simp
           with_reducible rfl
          rotate_left
          ·simp only [Act.put,List.setIfInBounds_toArray,List.set_cons_zero,List.set_cons_succ,i64_w,i32_w]
           rfl
          refine pure_ (i:=3) (N:=some 42) (v:=?_) (a':=?_) #[true,false,true,true,false,false,false,false,false,false] rfl rfl (any_of HT_.out (by kernel_rfl)) (fun _ _ _ h=>h) (Or.inl ⟨by rfl,?_⟩) ?_ ?_;rotate_left
          ·intro w';go_simp
           with_reducible rfl
          rotate_left
          ·simp only [Act.put,List.setIfInBounds_toArray,List.set_cons_zero,List.set_cons_succ,i64_w,i32_w]
           rfl
          refine pure_ (i:=4) (N:=some 43) (v:=?_) (a':=?_) #[true,false,true,true,true,false,false,false,false,false] rfl rfl (any_of HT_.out (by kernel_rfl)) (fun _ _ _ h=>h) (Or.inl ⟨by rfl,?_⟩) ?_ ?_;rotate_left
          ·intro w';go_simp
           with_reducible rfl
          rotate_left
          ·simp only [Act.put,List.setIfInBounds_toArray,List.set_cons_zero,List.set_cons_succ,i64_w,i32_w]
           rfl
          refine take_ (i:=5) (N:=some 44) (v:=?_) (a':=?_) #[true,false,true,true,true,true,false,false,false,false] rfl rfl (take_ofW HT_.out HW_.out (by kernel_rfl)) (fun _ _ _ h=>h) (Or.inl ⟨by rfl,?_⟩) hHeld ?_ ?_;rotate_left
          ·intro w' s0;go_simp
           with_reducible rfl
          rotate_left
          ·simp only [Act.put,List.setIfInBounds_toArray,List.set_cons_zero,List.set_cons_succ,i64_w,i32_w]
           rfl
          refine join_ (σ:=Value × Value × Value × Nat) 1 #[true,true,true,true,true,true,true,true,true,false] (fun s_=>[(40,.agg #[s_.1,.bool b5]),(45,.agg #[s_.2.1,.bool b6]),(46,.agg #[s_.2.2.1,.bool O]),(11,.pointer (some ⟨s_.2.2.2,0,none⟩))]) (fun s_ w'=>(w'.cell? (ad661.add (x10_2).toNat) = some (.int .i64 (rd l1 x10_2)))∧(Kd.V (Kd.int .u64) 42 w' w.heap.size (fun l=>some l≠(u7 : Value).ownBlock∧some l≠(u8 : Value).ownBlock∧l≠u∧l≠s_.2.2.2) s_.1 a7)∧(Kd.V (Kd.int .u64) 42 w' w.heap.size (fun l=>some l≠(u7 : Value).ownBlock∧some l≠(u8 : Value).ownBlock∧l≠u∧l≠s_.2.2.2) s_.2.1 a8)∧(Kd.V (Kd.int .u64) 42 w' w.heap.size (fun l=>some l≠(u7 : Value).ownBlock∧some l≠(u8 : Value).ownBlock∧l≠u∧l≠s_.2.2.2) s_.2.2.1 L)∧(Kd.V (Kd.int .u64) 42 w' w.heap.size (fun l=>some l≠(u7 : Value).ownBlock∧some l≠(u8 : Value).ownBlock∧l≠u∧l≠s_.2.2.2) W A)∧(Kd.R (Kd.int .i64) 2 w' w.heap.size (fun _=>True) u7 x7_2)∧(Kd.N k34 34 w' w.heap.size (fun l=>some l≠(u7 : Value).ownBlock∧l≠u∧l≠s_.2.2.2) u8 x8_2)∧(w'.heap[u]? = some (.cells #[W,.bool z] 34 (0,0)))∧(w'.heap[s_.2.2.2]? = some (.cells #[.slice none 0 0,.bool false] 34 (0,0)))∧(w.heap.size≤s_.2.2.2)∧(w.heap.size≤s_.2.2.2)∧(u≠s_.2.2.2)∧(s_.2.2.2≠u)∧(Below w.heap.size w w')) ?_ ?_;rotate_left
          ·intro hCont;refine two_ (i:=1) (j:=8) (Ni:=some 40) (Nj:=some 11) #[true,true,true,true,true,true,false,false,false,false] #[true,false,true,true,true,true,false,false,true,false] rfl rfl rfl rfl (two_of HT_.out (by kernel_rfl)) (by decide) (by decide) (fun K hK=>?_) (fun K hK=>?_)
           ·skip
            refine goes_ Try.func15 (by kernel_rfl) rfl #[.int .i64 a0] (by rfl) rfl rfl (by (try simp only [List.map_toArray,List.map_cons,List.map_nil]);first|done|rfl|(simp only [List.length_drop,List.length_take];rfl)) ?_;with_reducible refine (trivetref01_Of.calls k2 a0 a7 b5 _ o0.out).mono ?_
            rintro e r1 ⟨g8,rfl,ho0,hb⟩;refine ⟨_,rfl,?_⟩;replace d:=kvb d hb;have B:=ka (Kd.V_lower (Kd.V_mono (ok':=fun l=>some l≠(u7 : Value).ownBlock∧some l≠(u8 : Value).ownBlock∧l≠u) ho0 (fun l F=>⟨(Kd.fresh' (Kd.R_lt (kr x.out)) l F),(Kd.fresh' (Kd.N_lt (by (with_reducible repeat (first|apply Kd.N_alloc|apply Kd.N_drewN|apply Kd.N_drew));exact s.out)) l F),(kf m F)⟩)) (below_size (kw HB.out)));replace x:=ka (Kd.R_below (kr x.out) hb);replace s:=ka (Kd.N_below (by (with_reducible repeat (first|apply Kd.N_alloc|apply Kd.N_drewN|apply Kd.N_drew));exact s.out) hb);replace m:=kbb m hb;replace HB:=ka (below_step (kw HB.out) hb);(try clear hb);(try clear hb2);(try clear hk);(try clear hi);(try clear ho0);refine hK.out _ _ (((HB.out.cell (World.block_lt_of_cell? w _ hw661_0)).trans hw661_0)) (fun hHeld=>?_);clear hK K;refine norm_ (a':=?_) ?_ ?_;rotate_left
            ·show Act.put _ (some 40) _ = _
             simp only [Act.put,List.setIfInBounds_toArray,List.set_cons_zero,List.set_cons_succ,i64_w,i32_w]
             rfl
            refine two_ (i:=6) (j:=8) (Ni:=some 45) (Nj:=some 11) #[true,true,true,true,true,true,true,false,false,false] #[true,true,true,true,true,true,false,false,true,false] rfl rfl rfl rfl (two_of HT_.out (by kernel_rfl)) (by decide) (by decide) (fun K hK=>?_) (fun K hK=>?_)
            ·skip
             refine goes_ Try.func15 (by kernel_rfl) rfl #[.int .i64 (rd l1 x10_2)] (by rfl) rfl rfl (by (try simp only [List.map_toArray,List.map_cons,List.map_nil]);first|done|rfl|(simp only [List.length_drop,List.length_take];rfl)) ?_;with_reducible refine (trivetref01_Of.calls k2 (rd l1 x10_2) a8 b6 _ j4.out).mono ?_
             rintro e o1 ⟨f5,rfl,ho0,hb⟩;refine ⟨_,rfl,?_⟩;replace d:=kvb d hb;replace B:=kvb B hb;have E:=ka (Kd.V_lower (Kd.V_mono (ok':=fun l=>some l≠(u7 : Value).ownBlock∧some l≠(u8 : Value).ownBlock∧l≠u) ho0 (fun l F=>⟨(Kd.fresh' (Kd.R_lt (kr x.out)) l F),(Kd.fresh' (Kd.N_lt (by (with_reducible repeat (first|apply Kd.N_alloc|apply Kd.N_drewN|apply Kd.N_drew));exact s.out)) l F),(kf m F)⟩)) (below_size (kw HB.out)));replace x:=ka (Kd.R_below (kr x.out) hb);replace s:=ka (Kd.N_below (by (with_reducible repeat (first|apply Kd.N_alloc|apply Kd.N_drewN|apply Kd.N_drew));exact s.out) hb);replace m:=kbb m hb;replace HB:=ka (below_step (kw HB.out) hb);(try clear hb);(try clear hb2);(try clear hk);(try clear hi);(try clear ho0);obtain ⟨k5,k6,k7⟩:=Kd.V_slice B.out;(first|subst k7|(injection k7 with f1_ f2_ f3_;have f4_:=f1_.symm;have f5_:=f3_.symm;clear f1_ f2_ f3_;subst f4_;subst f5_));obtain ⟨c8,c9,d0⟩:=Kd.V_slice E.out;(first|subst d0|(injection d0 with f1_ f2_ f3_;have f4_:=f1_.symm;have f5_:=f3_.symm;clear f1_ f2_ f3_;subst f4_;subst f5_));refine hK.out _ _ (((HB.out.cell (World.block_lt_of_cell? w _ hw661_0)).trans hw661_0)) (fun hHeld=>?_);clear hK K;refine norm_ (a':=?_) ?_ ?_;rotate_left
             ·show Act.put _ (some 45) _ = _
              simp only [Act.put,List.setIfInBounds_toArray,List.set_cons_zero,List.set_cons_succ,i64_w,i32_w]
              rfl
             refine two_ (i:=7) (j:=8) (Ni:=some 46) (Nj:=some 11) #[true,true,true,true,true,true,true,true,false,false] #[true,true,true,true,true,true,true,false,true,false] rfl rfl rfl rfl (two_of HT_.out (by kernel_rfl)) (by decide) (by decide) (fun K hK=>?_) (fun K hK=>?_)
             ·skip
              refine goes_ Try.func14 (by kernel_rfl) rfl #[.agg #[.slice k5 a7.length k6,.bool b5],.agg #[.slice c8 a8.length c9,.bool b6]] (by rfl) rfl rfl (by (try simp only [List.map_toArray,List.map_cons,List.map_nil]);first|done|rfl|(simp only [List.length_drop,List.length_take];rfl)) ?_;with_reducible refine (trivetref01_Mul.calls k2 _ _ a7 b5 _ _ a8 b6 L O _ ?side1 ?side2 ?side3 ?side4 i0.out).mono ?_
              (case side1=>repeat (first|exact (Kd.V_reads' B.out).2.2|(with_reducible refine Kd.C_alloc ?_ _)|(with_reducible refine Kd.C_drewN ?_ _)|(with_reducible refine Kd.C_drew ?_)));(case side2=>exact (Kd.V_reads' B.out).2.1);(case side3=>repeat (first|exact (Kd.V_reads' E.out).2.2|(with_reducible refine Kd.C_alloc ?_ _)|(with_reducible refine Kd.C_drewN ?_ _)|(with_reducible refine Kd.C_drew ?_)));(case side4=>exact (Kd.V_reads' E.out).2.1);rintro e w7 ⟨d2,rfl,ho0,hb⟩;refine ⟨_,rfl,?_⟩;replace d:=kvb d hb;replace B:=kvb B hb;replace E:=kvb E hb;have I:=ka (Kd.V_lower (Kd.V_mono (ok':=fun l=>some l≠(u7 : Value).ownBlock∧some l≠(u8 : Value).ownBlock∧l≠u) ho0 (fun l F=>⟨(Kd.fresh' (Kd.R_lt (kr x.out)) l F),(Kd.fresh' (Kd.N_lt (by (with_reducible repeat (first|apply Kd.N_alloc|apply Kd.N_drewN|apply Kd.N_drew));exact s.out)) l F),(kf m F)⟩)) (below_size (kw HB.out)));replace x:=ka (Kd.R_below (kr x.out) hb);replace s:=ka (Kd.N_below (by (with_reducible repeat (first|apply Kd.N_alloc|apply Kd.N_drewN|apply Kd.N_drew));exact s.out) hb);replace m:=kbb m hb;replace HB:=ka (below_step (kw HB.out) hb);(try clear hb);(try clear hb2);(try clear hk);(try clear hi);(try clear ho0);refine hK.out _ _ (((HB.out.cell (World.block_lt_of_cell? w _ hw661_0)).trans hw661_0)) (fun hHeld=>?_);clear hK K;refine norm_ (a':=?_) ?_ ?_;rotate_left
              ·show Act.put _ (some 46) _ = _
               simp only [Act.put,List.setIfInBounds_toArray,List.set_cons_zero,List.set_cons_succ,i64_w,i32_w]
               rfl
              refine one_ (i:=8) (N:=some 11) #[true,true,true,true,true,true,true,true,true,false] rfl rfl (one_of HT_.out (by kernel_rfl)) (by decide) (fun K hK=>?_);refine box_step ?hg (N:=11) ?hd (cs:=#[.slice none 0 0,.bool false]) (t:=34) ?hr ?_;(case hd=>rfl);(case hg=>rfl);(case hr=>first|(go_simp;done)|(go_simp;rfl));intro q hg k8 hbox hb;replace x:=ka (Kd.R_below (kr x.out) hb);replace s:=ka (Kd.N_below (Kd.N_elderB (by (with_reducible repeat (first|apply Kd.N_alloc|apply Kd.N_drewN|apply Kd.N_drew));exact s.out) q (Nat.le_of_eq hg.symm)) hb);replace d:=ka (Kd.V_below (Kd.V_elderB (kv d.out) q (Nat.le_of_eq hg.symm)) hb);replace B:=ka (Kd.V_below (Kd.V_elderB (kv B.out) q (Nat.le_of_eq hg.symm)) hb);replace E:=ka (Kd.V_below (Kd.V_elderB (kv E.out) q (Nat.le_of_eq hg.symm)) hb);replace I:=ka (Kd.V_below (Kd.V_elderB (kv I.out) q (Nat.le_of_eq hg.symm)) hb);have y:=ka (hbox);have a4:=ka ((by rw [hg];exact (below_size (kw HB.out)) : w.heap.size≤q));have b8:=ka ((by rw [hg];exact (below_size (kw HB.out)) : w.heap.size≤q));replace HB:=ka (below_step (kw HB.out) hb);have M:=knb hg m;have X:=ka M.out.symm;replace m:=kbb m hb;clear hb hbox hg;refine hK.out _ _ (((HB.out.cell (World.block_lt_of_cell? w _ hw661_0)).trans hw661_0)) (fun hHeld=>?_);clear hK K;refine norm_ (a':=?_) ?_ ?_;rotate_left
              ·show Act.put _ (some 11) _ = _
               simp only [Act.put,List.setIfInBounds_toArray,List.set_cons_zero,List.set_cons_succ,i64_w,i32_w]
               rfl
              exact norm_ (by simp only [putAll,Act.put,List.setIfInBounds_toArray,List.set_cons_zero,List.set_cons_succ]) (hCont (.slice k5 a7.length k6,.slice c8 a8.length c9,d2,q) _ ⟨hHeld,(kv (Kd.V_mono B.out (fun _=>ra3))),(kv (Kd.V_mono E.out (fun _=>ra3))),(kv (Kd.V_mono I.out (fun _=>ra3))),(kv (Kd.V_mono d.out (fun _=>ra3))),(kr x.out),(by (with_reducible repeat (first|apply Kd.N_alloc|apply Kd.N_drewN|apply Kd.N_drew));exact Kd.N_mono s.out (fun _=>ra2)),(kz m.out),(kz y.out),a4.out,b8.out,M.out,X.out,(kw HB.out)⟩)
             ·skip
              refine box_step ?hg (N:=11) ?hd (cs:=#[.slice none 0 0,.bool false]) (t:=34) ?hr ?_;(case hd=>rfl);(case hg=>rfl);(case hr=>first|(go_simp;done)|(go_simp;rfl));intro q hg o2 hbox hb;replace x:=ka (Kd.R_below (kr x.out) hb);replace s:=ka (Kd.N_below (Kd.N_elderB (by (with_reducible repeat (first|apply Kd.N_alloc|apply Kd.N_drewN|apply Kd.N_drew));exact s.out) q (Nat.le_of_eq hg.symm)) hb);replace d:=ka (Kd.V_below (Kd.V_elderB (kv d.out) q (Nat.le_of_eq hg.symm)) hb);replace B:=ka (Kd.V_below (Kd.V_elderB (kv B.out) q (Nat.le_of_eq hg.symm)) hb);replace E:=ka (Kd.V_below (Kd.V_elderB (kv E.out) q (Nat.le_of_eq hg.symm)) hb);have y:=ka (hbox);have a4:=ka ((by rw [hg];exact (below_size (kw HB.out)) : w.heap.size≤q));have b8:=ka ((by rw [hg];exact (below_size (kw HB.out)) : w.heap.size≤q));replace HB:=ka (below_step (kw HB.out) hb);have M:=knb hg m;have X:=ka M.out.symm;replace m:=kbb m hb;clear hb hbox hg;obtain ⟨c8,c9,d0⟩:=Kd.V_slice B.out;(first|subst d0|(injection d0 with f1_ f2_ f3_;have f4_:=f1_.symm;have f5_:=f3_.symm;clear f1_ f2_ f3_;subst f4_;subst f5_));obtain ⟨d4,d5,d6⟩:=Kd.V_slice E.out;(first|subst d6|(injection d6 with f1_ f2_ f3_;have f4_:=f1_.symm;have f5_:=f3_.symm;clear f1_ f2_ f3_;subst f4_;subst f5_));refine hK.out _ _ (((HB.out.cell (World.block_lt_of_cell? w _ hw661_0)).trans hw661_0)) (fun hHeld=>?_);clear hK K;refine norm_ (a':=?_) ?_ ?_;rotate_left
              ·show Act.put _ (some 11) _ = _
               simp only [Act.put,List.setIfInBounds_toArray,List.set_cons_zero,List.set_cons_succ,i64_w,i32_w]
               rfl
              refine one_ (i:=7) (N:=some 46) #[true,true,true,true,true,true,true,true,true,false] rfl rfl (one_of HT_.out (by kernel_rfl)) (by decide) (fun K hK=>?_);refine goes_ Try.func14 (by kernel_rfl) rfl #[.agg #[.slice c8 a7.length c9,.bool b5],.agg #[.slice d4 a8.length d5,.bool b6]] (by rfl) rfl rfl (by (try simp only [List.map_toArray,List.map_cons,List.map_nil]);first|done|rfl|(simp only [List.length_drop,List.length_take];rfl)) ?_;with_reducible refine (trivetref01_Mul.calls k2 _ _ a7 b5 _ _ a8 b6 L O _ ?side1 ?side2 ?side3 ?side4 i0.out).mono ?_
              (case side1=>repeat (first|exact (Kd.V_reads' B.out).2.2|(with_reducible refine Kd.C_alloc ?_ _)|(with_reducible refine Kd.C_drewN ?_ _)|(with_reducible refine Kd.C_drew ?_)));(case side2=>exact (Kd.V_reads' B.out).2.1);(case side3=>repeat (first|exact (Kd.V_reads' E.out).2.2|(with_reducible refine Kd.C_alloc ?_ _)|(with_reducible refine Kd.C_drewN ?_ _)|(with_reducible refine Kd.C_drew ?_)));(case side4=>exact (Kd.V_reads' E.out).2.1);rintro e k8 ⟨d2,rfl,ho0,hb⟩;refine ⟨_,rfl,?_⟩;replace d:=kvb d hb;replace B:=kvb B hb;replace E:=kvb E hb;have I:=ka (Kd.V_lower (Kd.V_mono (ok':=fun l=>some l≠(u7 : Value).ownBlock∧some l≠(u8 : Value).ownBlock∧l≠u∧l≠q) ho0 (fun l F=>⟨(Kd.fresh' (Kd.R_lt (kr x.out)) l F),(Kd.fresh' (Kd.N_lt (by (with_reducible repeat (first|apply Kd.N_alloc|apply Kd.N_drewN|apply Kd.N_drew));exact s.out)) l F),(kf m F),(kf y F)⟩)) (below_size (kw HB.out)));replace x:=ka (Kd.R_below (kr x.out) hb);replace s:=ka (Kd.N_below (by (with_reducible repeat (first|apply Kd.N_alloc|apply Kd.N_drewN|apply Kd.N_drew));exact s.out) hb);replace m:=kbb m hb;replace y:=kbb y hb;replace HB:=ka (below_step (kw HB.out) hb);(try clear hb);(try clear hb2);(try clear hk);(try clear hi);(try clear ho0);refine hK.out _ _ (((HB.out.cell (World.block_lt_of_cell? w _ hw661_0)).trans hw661_0)) (fun hHeld=>?_);clear hK K;refine norm_ (a':=?_) ?_ ?_;rotate_left
              ·show Act.put _ (some 46) _ = _
               simp only [Act.put,List.setIfInBounds_toArray,List.set_cons_zero,List.set_cons_succ,i64_w,i32_w]
               rfl
              exact norm_ (by simp only [putAll,Act.put,List.setIfInBounds_toArray,List.set_cons_zero,List.set_cons_succ]) (hCont (.slice c8 a7.length c9,.slice d4 a8.length d5,d2,q) _ ⟨hHeld,(kv (Kd.V_mono B.out (fun _=>ra3))),(kv (Kd.V_mono E.out (fun _=>ra3))),(kv I.out),(kv (Kd.V_mono d.out (fun _=>ra3))),(kr x.out),(by (with_reducible repeat (first|apply Kd.N_alloc|apply Kd.N_drewN|apply Kd.N_drew));exact Kd.N_mono s.out (fun _=>ra2)),(kz m.out),(kz y.out),a4.out,b8.out,M.out,X.out,(kw HB.out)⟩)
            ·skip
             refine box_step ?hg (N:=11) ?hd (cs:=#[.slice none 0 0,.bool false]) (t:=34) ?hr ?_;(case hd=>rfl);(case hg=>rfl);(case hr=>first|(go_simp;done)|(go_simp;rfl));intro q hg o1 hbox hb;replace x:=ka (Kd.R_below (kr x.out) hb);replace s:=ka (Kd.N_below (Kd.N_elderB (by (with_reducible repeat (first|apply Kd.N_alloc|apply Kd.N_drewN|apply Kd.N_drew));exact s.out) q (Nat.le_of_eq hg.symm)) hb);replace d:=ka (Kd.V_below (Kd.V_elderB (kv d.out) q (Nat.le_of_eq hg.symm)) hb);replace B:=ka (Kd.V_below (Kd.V_elderB (kv B.out) q (Nat.le_of_eq hg.symm)) hb);have y:=ka (hbox);have a4:=ka ((by rw [hg];exact (below_size (kw HB.out)) : w.heap.size≤q));have b8:=ka ((by rw [hg];exact (below_size (kw HB.out)) : w.heap.size≤q));replace HB:=ka (below_step (kw HB.out) hb);have M:=knb hg m;have X:=ka M.out.symm;replace m:=kbb m hb;clear hb hbox hg;refine hK.out _ _ (((HB.out.cell (World.block_lt_of_cell? w _ hw661_0)).trans hw661_0)) (fun hHeld=>?_);clear hK K;refine norm_ (a':=?_) ?_ ?_;rotate_left
             ·show Act.put _ (some 11) _ = _
              simp only [Act.put,List.setIfInBounds_toArray,List.set_cons_zero,List.set_cons_succ,i64_w,i32_w]
              rfl
             refine one_ (i:=6) (N:=some 45) #[true,true,true,true,true,true,true,false,true,false] rfl rfl (one_of HT_.out (by kernel_rfl)) (by decide) (fun K hK=>?_);refine goes_ Try.func15 (by kernel_rfl) rfl #[.int .i64 (rd l1 x10_2)] (by rfl) rfl rfl (by (try simp only [List.map_toArray,List.map_cons,List.map_nil]);first|done|rfl|(simp only [List.length_drop,List.length_take];rfl)) ?_;with_reducible refine (trivetref01_Of.calls k2 (rd l1 x10_2) a8 b6 _ j4.out).mono ?_
             rintro e o2 ⟨f5,rfl,ho0,hb⟩;refine ⟨_,rfl,?_⟩;replace d:=kvb d hb;replace B:=kvb B hb;have E:=ka (Kd.V_lower (Kd.V_mono (ok':=fun l=>some l≠(u7 : Value).ownBlock∧some l≠(u8 : Value).ownBlock∧l≠u∧l≠q) ho0 (fun l F=>⟨(Kd.fresh' (Kd.R_lt (kr x.out)) l F),(Kd.fresh' (Kd.N_lt (by (with_reducible repeat (first|apply Kd.N_alloc|apply Kd.N_drewN|apply Kd.N_drew));exact s.out)) l F),(kf m F),(kf y F)⟩)) (below_size (kw HB.out)));replace x:=ka (Kd.R_below (kr x.out) hb);replace s:=ka (Kd.N_below (by (with_reducible repeat (first|apply Kd.N_alloc|apply Kd.N_drewN|apply Kd.N_drew));exact s.out) hb);replace m:=kbb m hb;replace y:=kbb y hb;replace HB:=ka (below_step (kw HB.out) hb);(try clear hb);(try clear hb2);(try clear hk);(try clear hi);(try clear ho0);obtain ⟨c8,c9,d0⟩:=Kd.V_slice B.out;(first|subst d0|(injection d0 with f1_ f2_ f3_;have f4_:=f1_.symm;have f5_:=f3_.symm;clear f1_ f2_ f3_;subst f4_;subst f5_));obtain ⟨d4,d5,d6⟩:=Kd.V_slice E.out;(first|subst d6|(injection d6 with f1_ f2_ f3_;have f4_:=f1_.symm;have f5_:=f3_.symm;clear f1_ f2_ f3_;subst f4_;subst f5_));refine hK.out _ _ (((HB.out.cell (World.block_lt_of_cell? w _ hw661_0)).trans hw661_0)) (fun hHeld=>?_);clear hK K;refine norm_ (a':=?_) ?_ ?_;rotate_left
             ·show Act.put _ (some 45) _ = _
              simp only [Act.put,List.setIfInBounds_toArray,List.set_cons_zero,List.set_cons_succ,i64_w,i32_w]
              rfl
             refine one_ (i:=7) (N:=some 46) #[true,true,true,true,true,true,true,true,true,false] rfl rfl (one_of HT_.out (by kernel_rfl)) (by decide) (fun K hK=>?_);refine goes_ Try.func14 (by kernel_rfl) rfl #[.agg #[.slice c8 a7.length c9,.bool b5],.agg #[.slice d4 a8.length d5,.bool b6]] (by rfl) rfl rfl (by (try simp only [List.map_toArray,List.map_cons,List.map_nil]);first|done|rfl|(simp only [List.length_drop,List.length_take];rfl)) ?_;with_reducible refine (trivetref01_Mul.calls k2 _ _ a7 b5 _ _ a8 b6 L O _ ?side1 ?side2 ?side3 ?side4 i0.out).mono ?_
             (case side1=>repeat (first|exact (Kd.V_reads' B.out).2.2|(with_reducible refine Kd.C_alloc ?_ _)|(with_reducible refine Kd.C_drewN ?_ _)|(with_reducible refine Kd.C_drew ?_)));(case side2=>exact (Kd.V_reads' B.out).2.1);(case side3=>repeat (first|exact (Kd.V_reads' E.out).2.2|(with_reducible refine Kd.C_alloc ?_ _)|(with_reducible refine Kd.C_drewN ?_ _)|(with_reducible refine Kd.C_drew ?_)));(case side4=>exact (Kd.V_reads' E.out).2.1);rintro e k8 ⟨d2,rfl,ho0,hb⟩;refine ⟨_,rfl,?_⟩;replace d:=kvb d hb;replace B:=kvb B hb;replace E:=kvb E hb;have I:=ka (Kd.V_lower (Kd.V_mono (ok':=fun l=>some l≠(u7 : Value).ownBlock∧some l≠(u8 : Value).ownBlock∧l≠u∧l≠q) ho0 (fun l F=>⟨(Kd.fresh' (Kd.R_lt (kr x.out)) l F),(Kd.fresh' (Kd.N_lt (by (with_reducible repeat (first|apply Kd.N_alloc|apply Kd.N_drewN|apply Kd.N_drew));exact s.out)) l F),(kf m F),(kf y F)⟩)) (below_size (kw HB.out)));replace x:=ka (Kd.R_below (kr x.out) hb);replace s:=ka (Kd.N_below (by (with_reducible repeat (first|apply Kd.N_alloc|apply Kd.N_drewN|apply Kd.N_drew));exact s.out) hb);replace m:=kbb m hb;replace y:=kbb y hb;replace HB:=ka (below_step (kw HB.out) hb);(try clear hb);(try clear hb2);(try clear hk);(try clear hi);(try clear ho0);refine hK.out _ _ (((HB.out.cell (World.block_lt_of_cell? w _ hw661_0)).trans hw661_0)) (fun hHeld=>?_);clear hK K;refine norm_ (a':=?_) ?_ ?_;rotate_left
             ·show Act.put _ (some 46) _ = _
              simp only [Act.put,List.setIfInBounds_toArray,List.set_cons_zero,List.set_cons_succ,i64_w,i32_w]
              rfl
             exact norm_ (by simp only [putAll,Act.put,List.setIfInBounds_toArray,List.set_cons_zero,List.set_cons_succ]) (hCont (.slice c8 a7.length c9,.slice d4 a8.length d5,d2,q) _ ⟨hHeld,(kv (Kd.V_mono B.out (fun _=>ra3))),(kv E.out),(kv I.out),(kv (Kd.V_mono d.out (fun _=>ra3))),(kr x.out),(by (with_reducible repeat (first|apply Kd.N_alloc|apply Kd.N_drewN|apply Kd.N_drew));exact Kd.N_mono s.out (fun _=>ra2)),(kz m.out),(kz y.out),a4.out,b8.out,M.out,X.out,(kw HB.out)⟩)
           ·skip
            refine box_step ?hg (N:=11) ?hd (cs:=#[.slice none 0 0,.bool false]) (t:=34) ?hr ?_;(case hd=>rfl);(case hg=>rfl);(case hr=>first|(go_simp;done)|(go_simp;rfl));intro q hg r1 hbox hb;replace x:=ka (Kd.R_below (kr x.out) hb);replace s:=ka (Kd.N_below (Kd.N_elderB (by (with_reducible repeat (first|apply Kd.N_alloc|apply Kd.N_drewN|apply Kd.N_drew));exact s.out) q (Nat.le_of_eq hg.symm)) hb);replace d:=ka (Kd.V_below (Kd.V_elderB (kv d.out) q (Nat.le_of_eq hg.symm)) hb);have y:=ka (hbox);have a4:=ka ((by rw [hg];exact (below_size (kw HB.out)) : w.heap.size≤q));have b8:=ka ((by rw [hg];exact (below_size (kw HB.out)) : w.heap.size≤q));replace HB:=ka (below_step (kw HB.out) hb);have M:=knb hg m;have X:=ka M.out.symm;replace m:=kbb m hb;clear hb hbox hg;refine hK.out _ _ (((HB.out.cell (World.block_lt_of_cell? w _ hw661_0)).trans hw661_0)) (fun hHeld=>?_);clear hK K;refine norm_ (a':=?_) ?_ ?_;rotate_left
            ·show Act.put _ (some 11) _ = _
             simp only [Act.put,List.setIfInBounds_toArray,List.set_cons_zero,List.set_cons_succ,i64_w,i32_w]
             rfl
            refine one_ (i:=1) (N:=some 40) #[true,true,true,true,true,true,false,false,true,false] rfl rfl (one_of HT_.out (by kernel_rfl)) (by decide) (fun K hK=>?_);refine goes_ Try.func15 (by kernel_rfl) rfl #[.int .i64 a0] (by rfl) rfl rfl (by (try simp only [List.map_toArray,List.map_cons,List.map_nil]);first|done|rfl|(simp only [List.length_drop,List.length_take];rfl)) ?_;with_reducible refine (trivetref01_Of.calls k2 a0 a7 b5 _ o0.out).mono ?_
            rintro e o1 ⟨g8,rfl,ho0,hb⟩;refine ⟨_,rfl,?_⟩;replace d:=kvb d hb;have B:=ka (Kd.V_lower (Kd.V_mono (ok':=fun l=>some l≠(u7 : Value).ownBlock∧some l≠(u8 : Value).ownBlock∧l≠u∧l≠q) ho0 (fun l F=>⟨(Kd.fresh' (Kd.R_lt (kr x.out)) l F),(Kd.fresh' (Kd.N_lt (by (with_reducible repeat (first|apply Kd.N_alloc|apply Kd.N_drewN|apply Kd.N_drew));exact s.out)) l F),(kf m F),(kf y F)⟩)) (below_size (kw HB.out)));replace x:=ka (Kd.R_below (kr x.out) hb);replace s:=ka (Kd.N_below (by (with_reducible repeat (first|apply Kd.N_alloc|apply Kd.N_drewN|apply Kd.N_drew));exact s.out) hb);replace m:=kbb m hb;replace y:=kbb y hb;replace HB:=ka (below_step (kw HB.out) hb);(try clear hb);(try clear hb2);(try clear hk);(try clear hi);(try clear ho0);refine hK.out _ _ (((HB.out.cell (World.block_lt_of_cell? w _ hw661_0)).trans hw661_0)) (fun hHeld=>?_);clear hK K;refine norm_ (a':=?_) ?_ ?_;rotate_left
            ·show Act.put _ (some 40) _ = _
             simp only [Act.put,List.setIfInBounds_toArray,List.set_cons_zero,List.set_cons_succ,i64_w,i32_w]
             rfl
            refine one_ (i:=6) (N:=some 45) #[true,true,true,true,true,true,true,false,true,false] rfl rfl (one_of HT_.out (by kernel_rfl)) (by decide) (fun K hK=>?_);refine goes_ Try.func15 (by kernel_rfl) rfl #[.int .i64 (rd l1 x10_2)] (by rfl) rfl rfl (by (try simp only [List.map_toArray,List.map_cons,List.map_nil]);first|done|rfl|(simp only [List.length_drop,List.length_take];rfl)) ?_;with_reducible refine (trivetref01_Of.calls k2 (rd l1 x10_2) a8 b6 _ j4.out).mono ?_
            rintro e o2 ⟨f5,rfl,ho0,hb⟩;refine ⟨_,rfl,?_⟩;replace d:=kvb d hb;replace B:=kvb B hb;have E:=ka (Kd.V_lower (Kd.V_mono (ok':=fun l=>some l≠(u7 : Value).ownBlock∧some l≠(u8 : Value).ownBlock∧l≠u∧l≠q) ho0 (fun l F=>⟨(Kd.fresh' (Kd.R_lt (kr x.out)) l F),(Kd.fresh' (Kd.N_lt (by (with_reducible repeat (first|apply Kd.N_alloc|apply Kd.N_drewN|apply Kd.N_drew));exact s.out)) l F),(kf m F),(kf y F)⟩)) (below_size (kw HB.out)));replace x:=ka (Kd.R_below (kr x.out) hb);replace s:=ka (Kd.N_below (by (with_reducible repeat (first|apply Kd.N_alloc|apply Kd.N_drewN|apply Kd.N_drew));exact s.out) hb);replace m:=kbb m hb;replace y:=kbb y hb;replace HB:=ka (below_step (kw HB.out) hb);(try clear hb);(try clear hb2);(try clear hk);(try clear hi);(try clear ho0);obtain ⟨c8,c9,d0⟩:=Kd.V_slice B.out;(first|subst d0|(injection d0 with f1_ f2_ f3_;have f4_:=f1_.symm;have f5_:=f3_.symm;clear f1_ f2_ f3_;subst f4_;subst f5_));obtain ⟨d4,d5,d6⟩:=Kd.V_slice E.out;(first|subst d6|(injection d6 with f1_ f2_ f3_;have f4_:=f1_.symm;have f5_:=f3_.symm;clear f1_ f2_ f3_;subst f4_;subst f5_));refine hK.out _ _ (((HB.out.cell (World.block_lt_of_cell? w _ hw661_0)).trans hw661_0)) (fun hHeld=>?_);clear hK K;refine norm_ (a':=?_) ?_ ?_;rotate_left
            ·show Act.put _ (some 45) _ = _
             simp only [Act.put,List.setIfInBounds_toArray,List.set_cons_zero,List.set_cons_succ,i64_w,i32_w]
             rfl
            refine one_ (i:=7) (N:=some 46) #[true,true,true,true,true,true,true,true,true,false] rfl rfl (one_of HT_.out (by kernel_rfl)) (by decide) (fun K hK=>?_);refine goes_ Try.func14 (by kernel_rfl) rfl #[.agg #[.slice c8 a7.length c9,.bool b5],.agg #[.slice d4 a8.length d5,.bool b6]] (by rfl) rfl rfl (by (try simp only [List.map_toArray,List.map_cons,List.map_nil]);first|done|rfl|(simp only [List.length_drop,List.length_take];rfl)) ?_;with_reducible refine (trivetref01_Mul.calls k2 _ _ a7 b5 _ _ a8 b6 L O _ ?side1 ?side2 ?side3 ?side4 i0.out).mono ?_
            (case side1=>repeat (first|exact (Kd.V_reads' B.out).2.2|(with_reducible refine Kd.C_alloc ?_ _)|(with_reducible refine Kd.C_drewN ?_ _)|(with_reducible refine Kd.C_drew ?_)));(case side2=>exact (Kd.V_reads' B.out).2.1);(case side3=>repeat (first|exact (Kd.V_reads' E.out).2.2|(with_reducible refine Kd.C_alloc ?_ _)|(with_reducible refine Kd.C_drewN ?_ _)|(with_reducible refine Kd.C_drew ?_)));(case side4=>exact (Kd.V_reads' E.out).2.1);rintro e k8 ⟨d2,rfl,ho0,hb⟩;refine ⟨_,rfl,?_⟩;replace d:=kvb d hb;replace B:=kvb B hb;replace E:=kvb E hb;have I:=ka (Kd.V_lower (Kd.V_mono (ok':=fun l=>some l≠(u7 : Value).ownBlock∧some l≠(u8 : Value).ownBlock∧l≠u∧l≠q) ho0 (fun l F=>⟨(Kd.fresh' (Kd.R_lt (kr x.out)) l F),(Kd.fresh' (Kd.N_lt (by (with_reducible repeat (first|apply Kd.N_alloc|apply Kd.N_drewN|apply Kd.N_drew));exact s.out)) l F),(kf m F),(kf y F)⟩)) (below_size (kw HB.out)));replace x:=ka (Kd.R_below (kr x.out) hb);replace s:=ka (Kd.N_below (by (with_reducible repeat (first|apply Kd.N_alloc|apply Kd.N_drewN|apply Kd.N_drew));exact s.out) hb);replace m:=kbb m hb;replace y:=kbb y hb;replace HB:=ka (below_step (kw HB.out) hb);(try clear hb);(try clear hb2);(try clear hk);(try clear hi);(try clear ho0);refine hK.out _ _ (((HB.out.cell (World.block_lt_of_cell? w _ hw661_0)).trans hw661_0)) (fun hHeld=>?_);clear hK K;refine norm_ (a':=?_) ?_ ?_;rotate_left
            ·show Act.put _ (some 46) _ = _
             simp only [Act.put,List.setIfInBounds_toArray,List.set_cons_zero,List.set_cons_succ,i64_w,i32_w]
             rfl
            exact norm_ (by simp only [putAll,Act.put,List.setIfInBounds_toArray,List.set_cons_zero,List.set_cons_succ]) (hCont (.slice c8 a7.length c9,.slice d4 a8.length d5,d2,q) _ ⟨hHeld,(kv B.out),(kv E.out),(kv I.out),(kv (Kd.V_mono d.out (fun _=>ra3))),(kr x.out),(by (with_reducible repeat (first|apply Kd.N_alloc|apply Kd.N_drewN|apply Kd.N_drew));exact Kd.N_mono s.out (fun _=>ra2)),(kz m.out),(kz y.out),a4.out,b8.out,M.out,X.out,(kw HB.out)⟩)
          rintro ⟨g8,f5,d2,q⟩ b3 ⟨hS_,h0_,h1_,h2_,h3_,h4_,h5_,h6_,h7_,h8_,h9_,h10_,h11_,h12_⟩;have B : Aside0 (Kd.V (Kd.int .u64) 42 b3 w.heap.size (fun l=>some l≠(u7 : Value).ownBlock∧some l≠(u8 : Value).ownBlock∧l≠u∧l≠q) g8 a7):=⟨h0_⟩
          have E : Aside0 (Kd.V (Kd.int .u64) 42 b3 w.heap.size (fun l=>some l≠(u7 : Value).ownBlock∧some l≠(u8 : Value).ownBlock∧l≠u∧l≠q) f5 a8):=⟨h1_⟩
          have I : Aside0 (Kd.V (Kd.int .u64) 42 b3 w.heap.size (fun l=>some l≠(u7 : Value).ownBlock∧some l≠(u8 : Value).ownBlock∧l≠u∧l≠q) d2 L):=⟨h2_⟩
          replace d : Aside0 (Kd.V (Kd.int .u64) 42 b3 w.heap.size (fun l=>some l≠(u7 : Value).ownBlock∧some l≠(u8 : Value).ownBlock∧l≠u∧l≠q) W A):=⟨h3_⟩
          replace x : Aside0 (Kd.R (Kd.int .i64) 2 b3 w.heap.size (fun _=>True) u7 x7_2):=⟨h4_⟩
          replace s : Aside0 (Kd.N k34 34 b3 w.heap.size (fun l=>some l≠(u7 : Value).ownBlock∧l≠u∧l≠q) u8 x8_2):=⟨h5_⟩
          replace m : Aside0 (b3.heap[u]? = some (.cells #[W,.bool z] 34 (0,0))):=⟨h6_⟩
          have y : Aside0 (b3.heap[q]? = some (.cells #[.slice none 0 0,.bool false] 34 (0,0))):=⟨h7_⟩
          have a4 : Aside0 (w.heap.size≤q):=⟨h8_⟩
          have b8 : Aside0 (w.heap.size≤q):=⟨h9_⟩
          have M : Aside0 (u≠q):=⟨h10_⟩
          have X : Aside0 (q≠u):=⟨h11_⟩
          replace HB : Aside0 (Below w.heap.size w b3):=⟨h12_⟩
          clear h0_ h1_ h2_ h3_ h4_ h5_ h6_ h7_ h8_ h9_ h10_ h11_ h12_;have hHeld : b3.cell? (ad661.add (x10_2).toNat) = some (.int .i64 (rd l1 x10_2)):=hS_;obtain ⟨a2,a3,k9⟩:=Kd.V_slice I.out;(first|subst k9|(injection k9 with f1_ f2_ f3_;have f4_:=f1_.symm;have f5_:=f3_.symm;clear f1_ f2_ f3_;subst f4_;subst f5_));refine norm_ (a':=?_) ?_ ?_;rotate_left
          ·simp only [putAll,Act.put,List.setIfInBounds_toArray,List.set_cons_zero,List.set_cons_succ]
           rfl
          refine one_ (i:=9) (N:=none) #[true,true,true,true,true,true,true,true,true,true] rfl rfl (one_of HT_.out (by kernel_rfl)) (by decide) (fun K hK=>?_);have hs38 : b3.cell? ⟨q,0,none⟩ = some (.slice none 0 0):=(blk_cell y.out 0).trans rfl;have hfs38:=blk_frozen y.out 0;have hns38_0:=M.out;have hms38_0:=X.out;have hs39 : b3.cell? ⟨q,1,none⟩ = some (.bool false):=(blk_cell y.out 1).trans rfl;have hfs39:=blk_frozen y.out 1;have hns39_0:=M.out;have hms39_0:=X.out;refine skip_ (w1:=?_) (by rfl) rfl ?_ ?_;rotate_left
          ·go_simp
           rfl
          refine hK.out _ _ (((cell_far (p:=⟨q,_,none⟩) (by first|exact Nat.ne_of_lt (Nat.lt_of_lt_of_le (by have:=World.block_lt_of_cell? _ _ hw661_0;first|rwa [add_block] at this|exact this) a4.out)|(rw [add_block];exact Nat.ne_of_lt (Nat.lt_of_lt_of_le (by have:=World.block_lt_of_cell? _ _ hw661_0;first|rwa [add_block] at this|exact this) a4.out))|(show (Addr.add _ _).block≠_;rw [add_block];exact Nat.ne_of_lt (Nat.lt_of_lt_of_le (by have:=World.block_lt_of_cell? _ _ hw661_0;first|rwa [add_block] at this|exact this) a4.out))|(dsimp only;exact Nat.ne_of_lt (Nat.lt_of_lt_of_le (by have:=World.block_lt_of_cell? _ _ hw661_0;first|rwa [add_block] at this|exact this) a4.out))) _).trans (((cell_far (p:=⟨q,_,none⟩) (by first|exact Nat.ne_of_lt (Nat.lt_of_lt_of_le (by have:=World.block_lt_of_cell? _ _ hw661_0;first|rwa [add_block] at this|exact this) a4.out)|(rw [add_block];exact Nat.ne_of_lt (Nat.lt_of_lt_of_le (by have:=World.block_lt_of_cell? _ _ hw661_0;first|rwa [add_block] at this|exact this) a4.out))|(show (Addr.add _ _).block≠_;rw [add_block];exact Nat.ne_of_lt (Nat.lt_of_lt_of_le (by have:=World.block_lt_of_cell? _ _ hw661_0;first|rwa [add_block] at this|exact this) a4.out))|(dsimp only;exact Nat.ne_of_lt (Nat.lt_of_lt_of_le (by have:=World.block_lt_of_cell? _ _ hw661_0;first|rwa [add_block] at this|exact this) a4.out))) _).trans (hHeld))))) (fun hHeld=>?_);clear hK K;refine done_ (done_of HT_.out (by kernel_rfl)) ?_;have e1 : Aside0 (Kd.R (Kd.int .i64) 2 ((b3.setCell ⟨q,0,none⟩ (.slice a2 L.length a3)).setCell ⟨q,1,none⟩ (.bool O)) w.heap.size (fun _=>True) u7 x7_2):=⟨kr (Kd.R_mono (Kd.R_far (p:=⟨q,1,none⟩) (Kd.R_far (p:=⟨q,0,none⟩) (Kd.R_types x.out y.out (by decide)) (fun _ hk=>hk.2) (.slice a2 L.length a3)) (fun _ hk=>hk.2) (.bool O)) (fun _ hk=>trivial))⟩
          have e2 : Aside0 (Kd.N k34 34 ((b3.setCell ⟨q,0,none⟩ (.slice a2 L.length a3)).setCell ⟨q,1,none⟩ (.bool O)) w.heap.size (fun l=>some l≠(u7 : Value).ownBlock∧l≠u∧l≠q) u8 x8_2):=⟨by (with_reducible repeat (first|apply Kd.N_alloc|apply Kd.N_drewN|apply Kd.N_drew));exact Kd.N_mono (Kd.N_far (p:=⟨q,1,none⟩) (Kd.N_far (p:=⟨q,0,none⟩) (Kd.N_mono s.out (fun l hk=>(⟨hk,hk.2.2⟩ : _∧l≠q))) (fun _ hk=>hk.2) (.slice a2 L.length a3)) (fun _ hk=>hk.2) (.bool O)) (fun _ hk=>⟨hk.1.1,⟨hk.1.2.1,hk.1.2.2⟩⟩)⟩
          have d8 : Aside0 (Kd.V (Kd.int .u64) 42 ((b3.setCell ⟨q,0,none⟩ (.slice a2 L.length a3)).setCell ⟨q,1,none⟩ (.bool O)) w.heap.size (fun l=>some l≠(u7 : Value).ownBlock∧some l≠(u8 : Value).ownBlock∧l≠u∧l≠q) W A):=⟨kv (Kd.V_mono (Kd.V_far (p:=⟨q,1,none⟩) (Kd.V_far (p:=⟨q,0,none⟩) (Kd.V_mono d.out (fun l hk=>(⟨hk,hk.2.2.2⟩ : _∧l≠q))) (fun _ hk=>hk.2) (.slice a2 L.length a3)) (fun _ hk=>hk.2) (.bool O)) (fun _ hk=>⟨hk.1.1,⟨hk.1.2.1,⟨hk.1.2.2.1,hk.1.2.2.2⟩⟩⟩))⟩
          have e3 : Aside0 (Kd.V (Kd.int .u64) 42 ((b3.setCell ⟨q,0,none⟩ (.slice a2 L.length a3)).setCell ⟨q,1,none⟩ (.bool O)) w.heap.size (fun l=>some l≠(u7 : Value).ownBlock∧some l≠(u8 : Value).ownBlock∧l≠u∧l≠q) g8 a7):=⟨kv (Kd.V_mono (Kd.V_far (p:=⟨q,1,none⟩) (Kd.V_far (p:=⟨q,0,none⟩) (Kd.V_mono B.out (fun l hk=>(⟨hk,hk.2.2.2⟩ : _∧l≠q))) (fun _ hk=>hk.2) (.slice a2 L.length a3)) (fun _ hk=>hk.2) (.bool O)) (fun _ hk=>⟨hk.1.1,⟨hk.1.2.1,⟨hk.1.2.2.1,hk.1.2.2.2⟩⟩⟩))⟩
          have f6 : Aside0 (Kd.V (Kd.int .u64) 42 ((b3.setCell ⟨q,0,none⟩ (.slice a2 L.length a3)).setCell ⟨q,1,none⟩ (.bool O)) w.heap.size (fun l=>some l≠(u7 : Value).ownBlock∧some l≠(u8 : Value).ownBlock∧l≠u∧l≠q) f5 a8):=⟨kv (Kd.V_mono (Kd.V_far (p:=⟨q,1,none⟩) (Kd.V_far (p:=⟨q,0,none⟩) (Kd.V_mono E.out (fun l hk=>(⟨hk,hk.2.2.2⟩ : _∧l≠q))) (fun _ hk=>hk.2) (.slice a2 L.length a3)) (fun _ hk=>hk.2) (.bool O)) (fun _ hk=>⟨hk.1.1,⟨hk.1.2.1,⟨hk.1.2.2.1,hk.1.2.2.2⟩⟩⟩))⟩
          have f7 : Aside0 (Kd.V (Kd.int .u64) 42 ((b3.setCell ⟨q,0,none⟩ (.slice a2 L.length a3)).setCell ⟨q,1,none⟩ (.bool O)) w.heap.size (fun l=>some l≠(u7 : Value).ownBlock∧some l≠(u8 : Value).ownBlock∧l≠u∧l≠q) (.slice a2 L.length a3) L):=⟨kv (Kd.V_mono (Kd.V_far (p:=⟨q,1,none⟩) (Kd.V_far (p:=⟨q,0,none⟩) (Kd.V_mono I.out (fun l hk=>(⟨hk,hk.2.2.2⟩ : _∧l≠q))) (fun _ hk=>hk.2) (.slice a2 L.length a3)) (fun _ hk=>hk.2) (.bool O)) (fun _ hk=>⟨hk.1.1,⟨hk.1.2.1,⟨hk.1.2.2.1,hk.1.2.2.2⟩⟩⟩))⟩
          have f8 : Aside0 (((b3.setCell ⟨q,0,none⟩ (.slice a2 L.length a3)).setCell ⟨q,1,none⟩ (.bool O)).heap[u]? = some (.cells #[W,.bool z] 34 (0,0))):=⟨by (with_reducible repeat (first|apply kb1|apply kb2|apply kb3|refine kb4 ?_ M.out _));exact m.out⟩
          have f9 : Aside0 (((b3.setCell ⟨q,0,none⟩ (.slice a2 L.length a3)).setCell ⟨q,1,none⟩ (.bool O)).heap[q]? = some (.cells #[.slice a2 L.length a3,.bool O] 34 (0,0))):=⟨by (with_reducible repeat (first|apply kb1|apply kb2|apply kb3|apply blkPut2_1|apply blkPut2_0));exact y.out⟩
          have g0 : Aside0 (Below w.heap.size w ((b3.setCell ⟨q,0,none⟩ (.slice a2 L.length a3)).setCell ⟨q,1,none⟩ (.bool O))):=⟨by repeat (first|(with_reducible first|exact HB.out|apply kc1|apply kc2|apply kc3|refine kc4 ?_ b2.out|refine kc4 ?_ b8.out)|exact HB.out)⟩
          (try clear x);(try clear s);(try clear d);(try clear B);(try clear E);(try clear I);(try clear m);(try clear y);(try clear HB);generalize ((b3.setCell ⟨q,0,none⟩ (.slice a2 L.length a3)).setCell ⟨q,1,none⟩ (.bool O)) = w8 at e1 e2 d8 e3 f6 f7 f8 f9 g0 ⊢;have x:=e1;have s:=e2;have d:=d8;have B:=e3;have E:=f6;have I:=f7;have m:=f8;have y:=f9;have HB:=g0;clear e1 e2 d8 e3 f6 f7 f8 f9 g0;have r6:=X.out;have r7:=M.out;have i1:=blkAll2 y.out;have i2:=blkAll2 m.out;obtain ⟨g9,h0,p0⟩:=Kd.V_slice d.out;subst p0;try go_wp2_with (first|((with_reducible refine gate_callee (f:=25) rfl ?_);refine kg (some 49) rfl rfl Try.func25 (by kernel_rfl) rfl #[.agg #[.slice a2 L.length a3,.bool O],.agg #[.slice g9 A.length h0,.bool z],.int .i64 1] rfl ?_;(with_reducible refine (trivetref01_Quotient.calls k2 (fun l=>(some l≠(u7 : Value).ownBlock∧(some l≠(u8 : Value).ownBlock∧(l≠u∧l≠q)))) _ _ L O (fun l=>(some l≠(u7 : Value).ownBlock∧(some l≠(u8 : Value).ownBlock∧(l≠u∧l≠q)))) _ _ A z 1 a6 a9 _ ?side1 ?side2 q5.out).mono ?_);(case side1=>exact I.out);(case side2=>exact d.out);rintro e x2 ⟨t4,rfl,ho0,hb⟩;refine ⟨_,rfl,?_⟩;replace d:=kvb d hb;replace B:=kvb B hb;replace E:=kvb E hb;replace I:=kvb I hb;have U:=ka (Kd.V_lower (Kd.V_mono (ok':=fun l=>some l≠(u7 : Value).ownBlock∧some l≠(u8 : Value).ownBlock∧l≠u∧l≠q) ho0 (fun l F=>⟨Or.elim F (fun Z=>Or.elim Z (fun Z=>Z.1) (fun Z=>Z.1)) (fun b9=>(Kd.fresh' (Kd.R_lt (kr x.out)) l b9)),Or.elim F (fun Z=>Or.elim Z (fun Z=>Z.2.1) (fun Z=>Z.2.1)) (fun b9=>(Kd.fresh' (Kd.N_lt (by (with_reducible repeat (first|apply Kd.N_alloc|apply Kd.N_drewN|apply Kd.N_drew));exact s.out)) l b9)),Or.elim F (fun Z=>Or.elim Z (fun Z=>Z.2.2.1) (fun Z=>Z.2.2.1)) (fun b9=>(kf m b9)),Or.elim F (fun Z=>Or.elim Z (fun Z=>Z.2.2.2) (fun Z=>Z.2.2.2)) (fun b9=>(kf y b9))⟩)) (below_size (kw HB.out)));replace x:=ka (Kd.R_below (kr x.out) hb);replace s:=ka (Kd.N_below (by (with_reducible repeat (first|apply Kd.N_alloc|apply Kd.N_drewN|apply Kd.N_drew));exact s.out) hb);replace m:=kbb m hb;replace y:=kbb y hb;replace HB:=ka (below_step (kw HB.out) hb);(try clear hb);(try clear hb2);(try clear hk);(try clear hi);(try clear ho0))|((with_reducible refine gate_dst (N:=12) rfl ?_);refine kx (N:=12) (cs:=#[.slice none 0 0,.bool false]) (t:=34) ?_;intro D hg x3 hbox hb;have e1:=ka (Kd.R_below (kr x.out) hb);have e2:=ka (Kd.N_below (Kd.N_elderB (by (with_reducible repeat (first|apply Kd.N_alloc|apply Kd.N_drewN|apply Kd.N_drew));exact s.out) D (Nat.le_of_eq hg.symm)) hb);have d8:=ka (Kd.V_below (Kd.V_elderB (kv d.out) D (Nat.le_of_eq hg.symm)) hb);have e3:=ka (Kd.V_below (Kd.V_elderB (kv B.out) D (Nat.le_of_eq hg.symm)) hb);have f6:=ka (Kd.V_below (Kd.V_elderB (kv E.out) D (Nat.le_of_eq hg.symm)) hb);have f7:=ka (Kd.V_below (Kd.V_elderB (kv I.out) D (Nat.le_of_eq hg.symm)) hb);have f8:=ka (Kd.V_below (Kd.V_elderB (kv U.out) D (Nat.le_of_eq hg.symm)) hb);have f9:=ka (blk_below (g:=u) (kz m.out) hb);have g0:=ka (blk_below (g:=q) (kz y.out) hb);have o3:=ka (below_step (kw HB.out) hb);have l4:=ka (hbox);have h4:=ka ((by rw [hg];exact (below_size (kw HB.out)) : w.heap.size≤D));have l5:=h4;have h5:=ka ((by rw [hg];exact Nat.ne_of_lt (blk_lt (g:=u) (kz m.out)) : u≠D));have l6:=ka h5.out.symm;have h6:=ka ((by rw [hg];exact Nat.ne_of_lt (blk_lt (g:=q) (kz y.out)) : q≠D));have l7:=ka h6.out.symm;clear x;clear s;clear d;clear B;clear E;clear I;clear U;clear m;clear y;clear HB;have x:=e1;have s:=e2;have d:=d8;have B:=e3;have E:=f6;have I:=f7;have U:=f8;have m:=f9;have y:=g0;have HB:=o3;have J:=l4;have r8:=h4;have n4:=l5;have f2:=h5;have h1:=l6;have f3:=h6;have h2:=l7;clear e1 e2 d8 e3 f6 f7 f8 f9 g0 o3 l4 h4 l5 h5 l6 h6 l7;clear hb hbox hg;obtain ⟨c7,b7,p1⟩:=Kd.V_slice U.out;subst p1;have r9:=h1.out;have s6:=f2.out;have s7:=h2.out;have s8:=f3.out;have i3:=blkAll2 J.out)|((with_reducible refine gate_callee (f:=26) rfl ?_);refine kg (some 52) rfl rfl Try.func26 (by kernel_rfl) rfl #[.agg #[.slice c7 a6.length b7,.bool a9]] rfl ?_;(with_reducible refine (trivetref01_To.calls k2 _ _ a6 a9 c3 o9 _ ?side1 ?side2 q7.out).mono ?_);(case side1=>refine (Kd.V_reads' (e:=42) (base:=w.heap.size) (ok:=fun l=>((some l≠(u7 : Value).ownBlock∧(some l≠(u8 : Value).ownBlock∧(l≠u∧l≠q)))∧l≠D)) (n:=a6.length) (c:=b7) ?_).2.2;exact (kv ((Kd.V_mono (Kd.V_far (p:=⟨D,1,none⟩) (Kd.V_far (p:=⟨D,0,none⟩) (Kd.V_mono U.out (fun l hk=>(⟨hk,hk.2⟩ : _∧l≠D))) (fun _ hk=>hk.2) (.slice c7 a6.length b7)) (fun _ hk=>hk.2) (.bool a9)) (fun _ h_=>h_.1)))));(case side2=>exact (Kd.V_reads' U.out).2.1);rintro e x4 ⟨rfl,hb⟩;refine ⟨_,rfl,?_⟩;replace x:=ka (Kd.R_below (kr ((Kd.R_mono (Kd.R_far (p:=⟨D,1,none⟩) (Kd.R_far (p:=⟨D,0,none⟩) (Kd.R_types x.out J.out (by decide)) (fun _ hk=>hk.2) (.slice c7 a6.length b7)) (fun _ hk=>hk.2) (.bool a9)) (fun _ h_=>h_.1)))) hb);replace s:=ka (Kd.N_below (by (with_reducible repeat (first|apply Kd.N_alloc|apply Kd.N_drewN|apply Kd.N_drew));exact (Kd.N_mono (Kd.N_far (p:=⟨D,1,none⟩) (Kd.N_far (p:=⟨D,0,none⟩) (Kd.N_mono s.out (fun l hk=>(⟨hk,hk.2⟩ : _∧l≠D))) (fun _ hk=>hk.2) (.slice c7 a6.length b7)) (fun _ hk=>hk.2) (.bool a9)) (fun _ h_=>h_.1))) hb);replace d:=ka (Kd.V_below (kv ((Kd.V_mono (Kd.V_far (p:=⟨D,1,none⟩) (Kd.V_far (p:=⟨D,0,none⟩) (Kd.V_mono d.out (fun l hk=>(⟨hk,hk.2⟩ : _∧l≠D))) (fun _ hk=>hk.2) (.slice c7 a6.length b7)) (fun _ hk=>hk.2) (.bool a9)) (fun _ h_=>h_.1)))) hb);replace B:=ka (Kd.V_below (kv ((Kd.V_mono (Kd.V_far (p:=⟨D,1,none⟩) (Kd.V_far (p:=⟨D,0,none⟩) (Kd.V_mono B.out (fun l hk=>(⟨hk,hk.2⟩ : _∧l≠D))) (fun _ hk=>hk.2) (.slice c7 a6.length b7)) (fun _ hk=>hk.2) (.bool a9)) (fun _ h_=>h_.1)))) hb);replace E:=ka (Kd.V_below (kv ((Kd.V_mono (Kd.V_far (p:=⟨D,1,none⟩) (Kd.V_far (p:=⟨D,0,none⟩) (Kd.V_mono E.out (fun l hk=>(⟨hk,hk.2⟩ : _∧l≠D))) (fun _ hk=>hk.2) (.slice c7 a6.length b7)) (fun _ hk=>hk.2) (.bool a9)) (fun _ h_=>h_.1)))) hb);replace I:=ka (Kd.V_below (kv ((Kd.V_mono (Kd.V_far (p:=⟨D,1,none⟩) (Kd.V_far (p:=⟨D,0,none⟩) (Kd.V_mono I.out (fun l hk=>(⟨hk,hk.2⟩ : _∧l≠D))) (fun _ hk=>hk.2) (.slice c7 a6.length b7)) (fun _ hk=>hk.2) (.bool a9)) (fun _ h_=>h_.1)))) hb);replace U:=ka (Kd.V_below (kv ((Kd.V_mono (Kd.V_far (p:=⟨D,1,none⟩) (Kd.V_far (p:=⟨D,0,none⟩) (Kd.V_mono U.out (fun l hk=>(⟨hk,hk.2⟩ : _∧l≠D))) (fun _ hk=>hk.2) (.slice c7 a6.length b7)) (fun _ hk=>hk.2) (.bool a9)) (fun _ h_=>h_.1)))) hb);replace m:=ka (blk_below (g:=u) (o:=.cells #[.slice g9 A.length h0,.bool z] 34 (0,0)) (by (with_reducible repeat (first|apply kb1|apply kb2|apply kb3|refine kb4 ?_ f2.out _));exact m.out) hb);replace y:=ka (blk_below (g:=q) (o:=.cells #[.slice a2 L.length a3,.bool O] 34 (0,0)) (by (with_reducible repeat (first|apply kb1|apply kb2|apply kb3|refine kb4 ?_ f3.out _));exact y.out) hb);replace J:=ka (blk_below (g:=D) (o:=.cells #[.slice c7 a6.length b7,.bool a9] 34 (0,0)) (by (with_reducible repeat (first|apply kb1|apply kb2|apply kb3|apply blkPut2_1|apply blkPut2_0));exact J.out) hb);replace HB:=ka (below_step (kw HB.out) hb);(try clear hb);(try clear hb2);(try clear hk);(try clear hi))|((with_reducible refine gate_builtin (b:=.append) (xs:=#[.tmp 55,.tmp 57]) rfl ?_);at_builtin;refine Kd.R_append (Kd.int .i64) (w0:=w) w.heap.size rfl (.tmp 55) (.tmp 57) 22 2 (.int .i64 0) 8 rfl Try.underlying22 info2 rfl (by decide) (by omega) u7 x7_2 c3 [.int .i64 c3] (fun _=>True) (fun _=>False) rfl rfl ?aP (fun _ hk=>hk.elim) ?aF ?aO ?aB ?aS ?aL ?_;(case aP=>exact rfl);(case aB=>exact (kw HB.out));(case aF=>exact (fun _ _=>trivial));(case aO=>exact (kr x.out));(case aS=>exact (below_size (kw HB.out)));(case aL=>have:=LMc24.out;omega);intro b4 r2 ho hb hg hat;rw [← Ny678.out] at ho;replace s:=ka (Kd.N_afterv (ok:=(fun l=>l≠u∧l≠q∧l≠D)) (by (with_reducible repeat (first|apply Kd.N_alloc|apply Kd.N_drewN|apply Kd.N_drew));exact Kd.N_mono s.out (fun _ hk=>⟨⟨hk.1.2.1,⟨hk.1.2.2,hk.2⟩⟩,hk.1.1⟩)) hg hat);replace d:=ka (Kd.V_afterv (ok:=(fun l=>some l≠(u8 : Value).ownBlock∧l≠u∧l≠q∧l≠D)) (kv (Kd.V_mono d.out (fun _ hk=>⟨⟨hk.1.2.1,⟨hk.1.2.2.1,⟨hk.1.2.2.2,hk.2⟩⟩⟩,hk.1.1⟩))) hg hat);replace m:=ka (blk_grown (g:=u) (kz m.out) hg (Kd.R_ne x.out m.out (by decide)));replace B:=ka (Kd.V_afterv (ok:=(fun l=>some l≠(u8 : Value).ownBlock∧l≠u∧l≠q∧l≠D)) (kv (Kd.V_mono B.out (fun _ hk=>⟨⟨hk.1.2.1,⟨hk.1.2.2.1,⟨hk.1.2.2.2,hk.2⟩⟩⟩,hk.1.1⟩))) hg hat);replace E:=ka (Kd.V_afterv (ok:=(fun l=>some l≠(u8 : Value).ownBlock∧l≠u∧l≠q∧l≠D)) (kv (Kd.V_mono E.out (fun _ hk=>⟨⟨hk.1.2.1,⟨hk.1.2.2.1,⟨hk.1.2.2.2,hk.2⟩⟩⟩,hk.1.1⟩))) hg hat);replace I:=ka (Kd.V_afterv (ok:=(fun l=>some l≠(u8 : Value).ownBlock∧l≠u∧l≠q∧l≠D)) (kv (Kd.V_mono I.out (fun _ hk=>⟨⟨hk.1.2.1,⟨hk.1.2.2.1,⟨hk.1.2.2.2,hk.2⟩⟩⟩,hk.1.1⟩))) hg hat);replace y:=ka (blk_grown (g:=q) (kz y.out) hg (Kd.R_ne x.out y.out (by decide)));replace U:=ka (Kd.V_afterv (ok:=(fun l=>some l≠(u8 : Value).ownBlock∧l≠u∧l≠q∧l≠D)) (kv (Kd.V_mono U.out (fun _ hk=>⟨⟨hk.1.2.1,⟨hk.1.2.2.1,⟨hk.1.2.2.2,hk.2⟩⟩⟩,hk.1.1⟩))) hg hat);replace J:=ka (blk_grown (g:=D) (kz J.out) hg (Kd.R_ne x.out J.out (by decide)));replace HB:=ka (hb);have a5:=ka (ho);clear x;clear ho hb hg hat))
          replace s:=ka (Kd.N_drew s.out);replace d:=ka (Kd.V_drew d.out);replace B:=ka (Kd.V_drew B.out);replace E:=ka (Kd.V_drew E.out);replace I:=ka (Kd.V_drew I.out);replace U:=ka (Kd.V_drew U.out);replace a5:=ka (Kd.R_drew a5.out);replace m:=ka (blk_drew m.out);replace y:=ka (blk_drew y.out);replace J:=ka (blk_drew J.out);replace HB:=ka (below_drew1 HB.out);refine start_ (n:=10) (S:=fun w'=>w'.cell? ⟨q,0,none⟩ = some (.slice a2 L.length a3)∧w'.cell? ⟨q,1,none⟩ = some (.bool O)∧w'.cell? ⟨D,0,none⟩ = some (.slice c7 a6.length b7)∧w'.cell? ⟨D,1,none⟩ = some (.bool a9)∧w'.cell? ⟨u,0,none⟩ = some (.slice g9 A.length h0)∧w'.cell? ⟨u,1,none⟩ = some (.bool z)) (ds:=[]) #[false,false,false,false,false,false,false,false,false,false] (by kernel_rfl) rfl rfl ⟨(blk_cell y.out 0).trans rfl,(blk_cell y.out 1).trans rfl,(blk_cell J.out 0).trans rfl,(blk_cell J.out 1).trans rfl,(blk_cell m.out 0).trans rfl,(blk_cell m.out 1).trans rfl⟩ (fun hHeld=>?_);refine with_tabW trivetref03_Shares.tab16 trivetref03_Shares.bits16 (fun HT_ HW_=>?_);generalize r2.drew = x5 at s d B E I U a5 m y J HB hHeld ⊢;refine pure_ (i:=0) (N:=some 59) (v:=?_) (a':=?_) #[true,false,false,false,false,false,false,false,false,false] rfl rfl (any_of HT_.out (by kernel_rfl)) (fun _ _ _ h=>h) (Or.inl ⟨by rfl,?_⟩) ?_ ?_;rotate_left
          ·intro w';go_simp
           with_reducible rfl
          rotate_left
          ·simp only [Act.put,List.setIfInBounds_toArray,List.set_cons_zero,List.set_cons_succ,i64_w,i32_w]
           rfl
          refine take_ (i:=1) (N:=some 60) (v:=?_) (a':=?_) #[true,true,false,false,false,false,false,false,false,false] rfl rfl (take_ofW HT_.out HW_.out (by kernel_rfl)) (fun _ _ _ h=>h) (Or.inl ⟨by rfl,?_⟩) hHeld ?_ ?_;rotate_left
          ·rintro w' ⟨s0,s1,s2,s3,s4,s5⟩;go_simp
           with_reducible rfl
          rotate_left
          ·simp only [Act.put,List.setIfInBounds_toArray,List.set_cons_zero,List.set_cons_succ,i64_w,i32_w]
           rfl
          refine take_ (i:=2) (N:=some 61) (v:=?_) (a':=?_) #[true,true,true,false,false,false,false,false,false,false] rfl rfl (take_ofW HT_.out HW_.out (by kernel_rfl)) (fun _ _ _ h=>h) (Or.inl ⟨by rfl,?_⟩) hHeld ?_ ?_;rotate_left
          ·rintro w' ⟨s0,s1,s2,s3,s4,s5⟩;go_simp
           with_reducible rfl
          rotate_left
          ·simp only [Act.put,List.setIfInBounds_toArray,List.set_cons_zero,List.set_cons_succ,i64_w,i32_w]
           rfl
          refine take_ (i:=3) (N:=some 62) (v:=?_) (a':=?_) #[true,true,true,true,false,false,false,false,false,false] rfl rfl (take_ofW HT_.out HW_.out (by kernel_rfl)) (fun _ _ _ h=>h) (Or.inl ⟨by rfl,?_⟩) hHeld ?_ ?_;rotate_left
          ·rintro w' ⟨s0,s1,s2,s3,s4,s5⟩;go_simp
           with_reducible rfl
          rotate_left
          ·simp only [Act.put,List.setIfInBounds_toArray,List.set_cons_zero,List.set_cons_succ,i64_w,i32_w]
           rfl
          refine one_ (i:=4) (N:=some 63) #[true,true,true,true,true,false,false,false,false,false] rfl rfl (one_of HT_.out (by kernel_rfl)) (by decide) (fun K hK=>?_);refine goes_ Try.func14 (by kernel_rfl) rfl #[.agg #[.slice c7 a6.length b7,.bool a9],.agg #[.slice g9 A.length h0,.bool z]] (by rfl) rfl rfl (by (try simp only [List.map_toArray,List.map_cons,List.map_nil]);first|done|rfl|(simp only [List.length_drop,List.length_take];rfl)) ?_;with_reducible refine (trivetref01_Mul.calls k2 _ _ a6 a9 _ _ A z g4 g5 _ ?side1 ?side2 ?side3 ?side4 q8.out).mono ?_
          (case side1=>repeat (first|exact (Kd.V_reads' U.out).2.2|(with_reducible refine Kd.C_alloc ?_ _)|(with_reducible refine Kd.C_drewN ?_ _)|(with_reducible refine Kd.C_drew ?_)));(case side2=>exact (Kd.V_reads' U.out).2.1);(case side3=>repeat (first|exact (Kd.V_reads' d.out).2.2|(with_reducible refine Kd.C_alloc ?_ _)|(with_reducible refine Kd.C_drewN ?_ _)|(with_reducible refine Kd.C_drew ?_)));(case side4=>exact (Kd.V_reads' d.out).2.1);rintro e y0 ⟨t6,rfl,ho0,hb⟩;refine ⟨_,rfl,?_⟩;replace d:=kvb d hb;replace B:=kvb B hb;replace E:=kvb E hb;replace I:=kvb I hb;replace U:=kvb U hb;have d1:=ka (Kd.V_lower (Kd.V_mono (ok':=fun l=>some l≠(u8 : Value).ownBlock∧some l≠(b4 : Value).ownBlock∧l≠u∧l≠q∧l≠D) ho0 (fun l F=>⟨(Kd.fresh' (Kd.N_lt (by (with_reducible repeat (first|apply Kd.N_alloc|apply Kd.N_drewN|apply Kd.N_drew));exact s.out)) l F),(Kd.fresh' (Kd.R_lt (kr a5.out)) l F),(kf m F),(kf y F),(kf J F)⟩)) (below_size (kw HB.out)));replace s:=ka (Kd.N_below (by (with_reducible repeat (first|apply Kd.N_alloc|apply Kd.N_drewN|apply Kd.N_drew));exact s.out) hb);replace a5:=ka (Kd.R_below (kr a5.out) hb);replace m:=kbb m hb;replace y:=kbb y hb;replace J:=kbb J hb;replace HB:=ka (below_step (kw HB.out) hb);(try clear hb);(try clear hb2);(try clear hk);(try clear hi);(try clear ho0);obtain ⟨p3,p4,l8⟩:=Kd.V_slice d1.out;(first|subst l8|(injection l8 with f1_ f2_ f3_;have f4_:=f1_.symm;have f5_:=f3_.symm;clear f1_ f2_ f3_;subst f4_;subst f5_));refine hK.out _ _ ⟨(blk_cell y.out 0).trans rfl,(blk_cell y.out 1).trans rfl,(blk_cell J.out 0).trans rfl,(blk_cell J.out 1).trans rfl,(blk_cell m.out 0).trans rfl,(blk_cell m.out 1).trans rfl⟩ (fun hHeld=>?_);clear hK K;refine norm_ (a':=?_) ?_ ?_;rotate_left
          ·show Act.put _ (some 63) _ = _
           simp only [Act.put,List.setIfInBounds_toArray,List.set_cons_zero,List.set_cons_succ,i64_w,i32_w]
           rfl
          refine one_ (i:=5) (N:=some 64) #[true,true,true,true,true,true,false,false,false,false] rfl rfl (one_of HT_.out (by kernel_rfl)) (by decide) (fun K hK=>?_);refine goes_ Try.func17 (by kernel_rfl) rfl #[.agg #[.slice p3 g4.length p4,.bool g5]] (by rfl) rfl rfl (by (try simp only [List.map_toArray,List.map_cons,List.map_nil]);first|done|rfl|(simp only [List.length_drop,List.length_take];rfl)) ?_;with_reducible refine (trivetref01_Neg.calls k2 (fun l=>(some l≠(u8 : Value).ownBlock∧(some l≠(b4 : Value).ownBlock∧(l≠u∧(l≠q∧l≠D))))) _ _ g4 g5 g6 g7 _ ?side1 q9.out).mono ?_
          (case side1=>exact d1.out);rintro e y1 ⟨t7,rfl,ho0,hb⟩;refine ⟨_,rfl,?_⟩;replace d:=kvb d hb;replace B:=kvb B hb;replace E:=kvb E hb;replace I:=kvb I hb;replace U:=kvb U hb;replace d1:=kvb d1 hb;have d3:=ka (Kd.V_lower (Kd.V_mono (ok':=fun l=>some l≠(u8 : Value).ownBlock∧some l≠(b4 : Value).ownBlock∧l≠u∧l≠q∧l≠D) ho0 (fun l F=>⟨Or.elim F (fun Z=>Z.1) (fun b9=>(Kd.fresh' (Kd.N_lt (by (with_reducible repeat (first|apply Kd.N_alloc|apply Kd.N_drewN|apply Kd.N_drew));exact s.out)) l b9)),Or.elim F (fun Z=>Z.2.1) (fun b9=>(Kd.fresh' (Kd.R_lt (kr a5.out)) l b9)),Or.elim F (fun Z=>Z.2.2.1) (fun b9=>(kf m b9)),Or.elim F (fun Z=>Z.2.2.2.1) (fun b9=>(kf y b9)),Or.elim F (fun Z=>Z.2.2.2.2) (fun b9=>(kf J b9))⟩)) (below_size (kw HB.out)));replace s:=ka (Kd.N_below (by (with_reducible repeat (first|apply Kd.N_alloc|apply Kd.N_drewN|apply Kd.N_drew));exact s.out) hb);replace a5:=ka (Kd.R_below (kr a5.out) hb);replace m:=kbb m hb;replace y:=kbb y hb;replace J:=kbb J hb;replace HB:=ka (below_step (kw HB.out) hb);(try clear hb);(try clear hb2);(try clear hk);(try clear hi);(try clear ho0);obtain ⟨p5,p7,l9⟩:=Kd.V_slice d3.out;(first|subst l9|(injection l9 with f1_ f2_ f3_;have f4_:=f1_.symm;have f5_:=f3_.symm;clear f1_ f2_ f3_;subst f4_;subst f5_));refine hK.out _ _ ⟨(blk_cell y.out 0).trans rfl,(blk_cell y.out 1).trans rfl,(blk_cell J.out 0).trans rfl,(blk_cell J.out 1).trans rfl,(blk_cell m.out 0).trans rfl,(blk_cell m.out 1).trans rfl⟩ (fun hHeld=>?_);clear hK K;refine norm_ (a':=?_) ?_ ?_;rotate_left
          ·show Act.put _ (some 64) _ = _
           simp only [Act.put,List.setIfInBounds_toArray,List.set_cons_zero,List.set_cons_succ,i64_w,i32_w]
           rfl
          refine one_ (i:=6) (N:=some 65) #[true,true,true,true,true,true,true,false,false,false] rfl rfl (one_of HT_.out (by kernel_rfl)) (by decide) (fun K hK=>?_);refine goes_ Try.func16 (by kernel_rfl) rfl #[.agg #[.slice a2 L.length a3,.bool O],.agg #[.slice p5 g6.length p7,.bool g7]] (by rfl) rfl rfl (by (try simp only [List.map_toArray,List.map_cons,List.map_nil]);first|done|rfl|(simp only [List.length_drop,List.length_take];rfl)) ?_;with_reducible refine (trivetref01_Add.calls k2 _ _ L O _ _ g6 g7 e6 e7 _ ?side1 ?side2 ?side3 ?side4 r0.out).mono ?_
          (case side1=>repeat (first|exact (Kd.V_reads' I.out).2.2|(with_reducible refine Kd.C_alloc ?_ _)|(with_reducible refine Kd.C_drewN ?_ _)|(with_reducible refine Kd.C_drew ?_)));(case side2=>exact (Kd.V_reads' I.out).2.1);(case side3=>repeat (first|exact (Kd.V_reads' d3.out).2.2|(with_reducible refine Kd.C_alloc ?_ _)|(with_reducible refine Kd.C_drewN ?_ _)|(with_reducible refine Kd.C_drew ?_)));(case side4=>exact (Kd.V_reads' d3.out).2.1);rintro e y2 ⟨t8,rfl,ho0,hb⟩;refine ⟨_,rfl,?_⟩;replace d:=kvb d hb;replace B:=kvb B hb;replace E:=kvb E hb;replace I:=kvb I hb;replace U:=kvb U hb;replace d1:=kvb d1 hb;replace d3:=kvb d3 hb;have e5:=ka (Kd.V_lower (Kd.V_mono (ok':=fun l=>some l≠(u8 : Value).ownBlock∧some l≠(b4 : Value).ownBlock∧l≠u∧l≠q∧l≠D) ho0 (fun l F=>⟨(Kd.fresh' (Kd.N_lt (by (with_reducible repeat (first|apply Kd.N_alloc|apply Kd.N_drewN|apply Kd.N_drew));exact s.out)) l F),(Kd.fresh' (Kd.R_lt (kr a5.out)) l F),(kf m F),(kf y F),(kf J F)⟩)) (below_size (kw HB.out)));replace s:=ka (Kd.N_below (by (with_reducible repeat (first|apply Kd.N_alloc|apply Kd.N_drewN|apply Kd.N_drew));exact s.out) hb);replace a5:=ka (Kd.R_below (kr a5.out) hb);replace m:=kbb m hb;replace y:=kbb y hb;replace J:=kbb J hb;replace HB:=ka (below_step (kw HB.out) hb);(try clear hb);(try clear hb2);(try clear hk);(try clear hi);(try clear ho0);obtain ⟨p8,p9,m0⟩:=Kd.V_slice e5.out;(first|subst m0|(injection m0 with f1_ f2_ f3_;have f4_:=f1_.symm;have f5_:=f3_.symm;clear f1_ f2_ f3_;subst f4_;subst f5_));refine hK.out _ _ ⟨(blk_cell y.out 0).trans rfl,(blk_cell y.out 1).trans rfl,(blk_cell J.out 0).trans rfl,(blk_cell J.out 1).trans rfl,(blk_cell m.out 0).trans rfl,(blk_cell m.out 1).trans rfl⟩ (fun hHeld=>?_);clear hK K;refine norm_ (a':=?_) ?_ ?_;rotate_left
          ·show Act.put _ (some 65) _ = _
           simp only [Act.put,List.setIfInBounds_toArray,List.set_cons_zero,List.set_cons_succ,i64_w,i32_w]
           rfl
          refine one_ (i:=7) (N:=some 66) #[true,true,true,true,true,true,true,true,false,false] rfl rfl (one_of HT_.out (by kernel_rfl)) (by decide) (fun K hK=>?_);refine value_ (w1:=?_) (v:=?_) (by rfl) rfl ?_ ?_;rotate_left 2
          ·go_simp
           constructor
           ·rfl
           ·rfl
          refine hK.out _ _ ⟨(blk_cell (blk_alloc y.out _) 0).trans rfl,(blk_cell (blk_alloc y.out _) 1).trans rfl,(blk_cell (blk_alloc J.out _) 0).trans rfl,(blk_cell (blk_alloc J.out _) 1).trans rfl,(blk_cell (blk_alloc m.out _) 0).trans rfl,(blk_cell (blk_alloc m.out _) 1).trans rfl⟩ (fun hHeld=>?_);clear hK K;refine norm_ (a':=?_) ?_ ?_;rotate_left
          ·show Act.put _ (some 66) _ = _
           simp only [Act.put,List.setIfInBounds_toArray,List.set_cons_zero,List.set_cons_succ,i64_w,i32_w]
           rfl
          refine one_ (i:=8) (N:=some 67) #[true,true,true,true,true,true,true,true,true,false] rfl rfl (one_of HT_.out (by kernel_rfl)) (by decide) (fun K hK=>?_);refine Kd.N_append_step k34 (w0:=w) w.heap.size (by rfl) (.tmp 59) (.tmp 66) 50 34 (.agg #[(.slice none 0 0),(.bool false)]) 32 rfl Try.underlying50 info34 rfl (by decide) (by omega) u8 x8_2 (⟨e6,e7⟩ : S34) [.slice p8 e6.length p9,.bool e7] (fun l=>some l≠(b4 : Value).ownBlock∧l≠u∧l≠q∧l≠D) (fun l=>((fun l=>some l≠(b4 : Value).ownBlock∧l≠u∧l≠q∧l≠D)) l∧some l≠(u8 : Value).ownBlock) rfl rfl ?aP (fun _ hk=>hk) ?aF ?aO ?aB ?aS ?aL ?_;(case aP=>exact (k34_mkF _ _ (⟨e6,e7⟩ : S34) (Kd.V_reads' (Kd.V_mono (ok':=(fun l=>((fun l=>some l≠(b4 : Value).ownBlock∧l≠u∧l≠q∧l≠D)) l∧some l≠(u8 : Value).ownBlock)) (e5.out) (fun l hk=>⟨⟨hk.2.1,⟨hk.2.2.1,⟨hk.2.2.2.1,hk.2.2.2.2⟩⟩⟩,hk.1⟩))).2.1 (Kd.V_F (Kd.V_mono (ok':=(fun l=>((fun l=>some l≠(b4 : Value).ownBlock∧l≠u∧l≠q∧l≠D)) l∧some l≠(u8 : Value).ownBlock)) (e5.out) (fun l hk=>⟨⟨hk.2.1,⟨hk.2.2.1,⟨hk.2.2.2.1,hk.2.2.2.2⟩⟩⟩,hk.1⟩)))));(case aB=>exact (kw HB.out));(case aF=>exact (fun l hk=>⟨Kd.fresh' (Kd.R_lt (kr a5.out)) l hk,Kd.freshB (g:=u) (kz m.out) l hk,Kd.freshB (g:=q) (kz y.out) l hk,Kd.freshB (g:=D) (kz J.out) l hk⟩));(case aO=>exact (by (with_reducible repeat (first|apply Kd.N_alloc|apply Kd.N_drewN|apply Kd.N_drew));exact Kd.N_mono s.out (fun _ hk=>⟨hk.2,⟨hk.1.1,⟨hk.1.2.1,hk.1.2.2⟩⟩⟩)));(case aS=>exact (below_size (kw HB.out)));(case aL=>have:=LMc28.out;omega);intro t9 y3 ho hb hg hat;rw [← Ny693.out] at ho
          replace d:=ka (Kd.V_afterv (ok:=(fun l=>some l≠(b4 : Value).ownBlock∧l≠u∧l≠q∧l≠D)) (kv (Kd.V_mono d.out (fun _ hk=>⟨⟨hk.2,⟨hk.1.2.1,⟨hk.1.2.2.1,hk.1.2.2.2⟩⟩⟩,hk.1.1⟩))) hg hat);replace m:=ka (blk_grown (g:=u) (kz m.out) hg (Kd.N_away s.out (fun _ hk=>hk.1.1)));replace B:=ka (Kd.V_afterv (ok:=(fun l=>some l≠(b4 : Value).ownBlock∧l≠u∧l≠q∧l≠D)) (kv (Kd.V_mono B.out (fun _ hk=>⟨⟨hk.2,⟨hk.1.2.1,⟨hk.1.2.2.1,hk.1.2.2.2⟩⟩⟩,hk.1.1⟩))) hg hat);replace E:=ka (Kd.V_afterv (ok:=(fun l=>some l≠(b4 : Value).ownBlock∧l≠u∧l≠q∧l≠D)) (kv (Kd.V_mono E.out (fun _ hk=>⟨⟨hk.2,⟨hk.1.2.1,⟨hk.1.2.2.1,hk.1.2.2.2⟩⟩⟩,hk.1.1⟩))) hg hat);replace I:=ka (Kd.V_afterv (ok:=(fun l=>some l≠(b4 : Value).ownBlock∧l≠u∧l≠q∧l≠D)) (kv (Kd.V_mono I.out (fun _ hk=>⟨⟨hk.2,⟨hk.1.2.1,⟨hk.1.2.2.1,hk.1.2.2.2⟩⟩⟩,hk.1.1⟩))) hg hat);replace y:=ka (blk_grown (g:=q) (kz y.out) hg (Kd.N_away s.out (fun _ hk=>hk.1.2.1)));replace U:=ka (Kd.V_afterv (ok:=(fun l=>some l≠(b4 : Value).ownBlock∧l≠u∧l≠q∧l≠D)) (kv (Kd.V_mono U.out (fun _ hk=>⟨⟨hk.2,⟨hk.1.2.1,⟨hk.1.2.2.1,hk.1.2.2.2⟩⟩⟩,hk.1.1⟩))) hg hat);replace J:=ka (blk_grown (g:=D) (kz J.out) hg (Kd.N_away s.out (fun _ hk=>hk.1.2.2)));replace a5:=ka (Kd.R_over' (kr a5.out) (Kd.N_typed (by (with_reducible repeat (first|apply Kd.N_alloc|apply Kd.N_drewN|apply Kd.N_drew));exact s.out)) (by decide) hg);replace d1:=ka (Kd.V_afterv (ok:=(fun l=>some l≠(b4 : Value).ownBlock∧l≠u∧l≠q∧l≠D)) (kv (Kd.V_mono d1.out (fun _ hk=>⟨⟨hk.2.1,⟨hk.2.2.1,⟨hk.2.2.2.1,hk.2.2.2.2⟩⟩⟩,hk.1⟩))) hg hat);replace d3:=ka (Kd.V_afterv (ok:=(fun l=>some l≠(b4 : Value).ownBlock∧l≠u∧l≠q∧l≠D)) (kv (Kd.V_mono d3.out (fun _ hk=>⟨⟨hk.2.1,⟨hk.2.2.1,⟨hk.2.2.2.1,hk.2.2.2.2⟩⟩⟩,hk.1⟩))) hg hat);replace e5:=ka (Kd.V_afterv (ok:=(fun l=>some l≠(b4 : Value).ownBlock∧l≠u∧l≠q∧l≠D)) (kv (Kd.V_mono e5.out (fun _ hk=>⟨⟨hk.2.1,⟨hk.2.2.1,⟨hk.2.2.2.1,hk.2.2.2.2⟩⟩⟩,hk.1⟩))) hg hat);replace HB:=ka (hb);have n5:=ka (ho);clear s;clear ho hb hg hat;refine hK.out _ _ ⟨(blk_cell y.out 0).trans rfl,(blk_cell y.out 1).trans rfl,(blk_cell J.out 0).trans rfl,(blk_cell J.out 1).trans rfl,(blk_cell m.out 0).trans rfl,(blk_cell m.out 1).trans rfl⟩ (fun hHeld=>?_);clear hK K;refine norm_ (a':=?_) ?_ ?_;rotate_left
          ·show Act.put _ (some 67) _ = _
           simp only [Act.put,List.setIfInBounds_toArray,List.set_cons_zero,List.set_cons_succ,i64_w,i32_w]
           rfl
          refine pure_ (i:=9) (N:=some 8) (v:=?_) (a':=?_) #[true,true,true,true,true,true,true,true,true,true] rfl rfl (any_of HT_.out (by kernel_rfl)) (fun _ _ _ h=>h) (Or.inl ⟨by rfl,?_⟩) ?_ ?_;rotate_left
          ·intro w';go_simp
           with_reducible rfl
          rotate_left
          ·simp only [Act.put,List.setIfInBounds_toArray,List.set_cons_zero,List.set_cons_succ,i64_w,i32_w]
           rfl
          refine done_ (done_of HT_.out (by kernel_rfl)) ?_;try go_wp2
          go_roundg k2
          case measure=>have:=HK1.out;have:=HK2.out;omega
          case rel=>exact ⟨(y678),(y693),(wrap64 (x9_2 - c3)),(wrap64 (x10_2 + 1)),(by first|rfl|(simp;done)|(simp [*];done)),(by first|rfl|(simp;done)|(simp [*];done)),H',⟨by have:=HK1.out;have:=HK2.out;omega⟩,⟨kr a5.out⟩,⟨by (with_reducible repeat (first|apply Kd.N_alloc|apply Kd.N_drewN|apply Kd.N_drew));exact Kd.N_mono n5.out (fun _ hk=>⟨hk.1,hk.2.1⟩)⟩,⟨kv (Kd.V_mono d.out (fun _ hk=>⟨hk.1.1,⟨hk.2,hk.1.2.1⟩⟩))⟩,⟨by (with_reducible repeat (first|apply kb1|apply kb2|apply kb3));exact m.out⟩,⟨by repeat (first|(with_reducible first|exact HB.out|apply kc1|apply kc2|apply kc3|refine kc4 ?_ b2.out|refine kc4 ?_ b8.out|refine kc4 ?_ n4.out)|exact HB.out)⟩⟩
         ·rw [if_neg c28] at H
          exact absurd H (by simp)
        ·rw [if_neg c24] at H
         exact absurd H (by simp)
       ·rw [if_neg c19] at H
        exact absurd H (by simp)
      ·rw [if_neg c17] at H
       have c17b0 : decide (x10_2 < (l1.length : Int)) = false:=decide_eq_false c17;clear c17;by_cases c61 : 0≤(l1.length : Int)
       ·rw [if_pos c61] at H
        have c61b0:=eq_true c61;have c61b1 : decide (0≤(l1.length : Int)) = true:=decide_eq_true c61;clear c61;by_cases c62 : ((l1.length : Int) : Int).toNat≤281474976710656
        ·rw [if_pos c62] at H
         have c62b0:=eq_true c62;have c62b1 : decide (((l1.length : Int) : Int).toNat≤281474976710656) = true:=decide_eq_true c62;clear c62;obtain ⟨y696,hy696⟩ : ∃ y_ : List Bool,y_ = (List.replicate ((l1.length : Int) : Int).toNat false):=⟨_,rfl⟩
         replace H : (trivetref03_Shares.l2 k2 l1 x7_2 x8_2 x9_2 y696) = some r:=by first|(rw [hy696];with_reducible exact H)|(have H2_:=(Option.bind_some _ _).symm.trans H;rw [hy696];with_reducible exact H2_)|(have H2_:=(Option.bind_some _ _).symm.trans H;with_reducible exact H2_)|with_reducible exact H|(rw [hy696];exact H)|exact H
         have Ny696:=ka hy696;clear hy696;have H':=ka H;clear H;go_wp2_with (first|((with_reducible refine gate_dst (N:=73) rfl ?_);refine Kd.R_make Kd.bool _ 4 rfl (N:=73) rfl 54 _ _ rfl (l1.length : Int) rfl rfl Try.underlying54 (.bool false) 1 info4 rfl (by decide) (by omega) false (ok:=fun _=>True) (okp:=fun _=>True) rfl (fun _ hk=>hk) trivial (of_decide_eq_true (by first|(with_reducible assumption)|assumption)) (Nat.le_trans (Nat.mul_le_mul_right _ (of_decide_eq_true (by first|(with_reducible assumption)|assumption) : (l1.length : Int).toNat≤281474976710656)) (by omega)) (Below.refl _ _) (Nat.le_refl _) ?_;intro e8 y4 ho64 hb hg_ hnew_;clear hg_ hnew_;(first|rw [← Ny696.out] at ho64|(simp only [Int.reduceToNat] at ho64;rw [← Ny696.out] at ho64));replace x:=ka (Kd.R_below (kr x.out) hb);replace s:=ka (Kd.N_elder' (by (with_reducible repeat (first|apply Kd.N_alloc|apply Kd.N_drewN|apply Kd.N_drew));exact s.out) (Kd.R_base ho64) hb);replace d:=ka (Kd.V_elder' (kv d.out) (Kd.R_base ho64) hb);have n6:=ka (Kd.R_lower ho64 (below_size (kw HB.out)));replace m:=kbb m hb;replace HB:=ka (below_step (kw HB.out) hb);clear hb ho64))
         (try simp only [Act.put,List.setIfInBounds_toArray,List.set_cons_zero,List.set_cons_succ]);go_loopg [9] k2 (fun kq v9 w'=>∃ (x7_3 : List Int) (x9_3 : Int) (x15_3 : List Bool),v9 = .int .i64 x9_3∧Aside0 (trivetref03_Shares.l2 kq l1 x7_3 x8_2 x9_3 x15_3 = some r)∧Aside0 (kq≤k2)∧Aside0 (Kd.R (Kd.int .i64) 2 w' w.heap.size (fun _=>True) u7 x7_3)∧Aside0 (Kd.N k34 34 w' w.heap.size (fun l=>some l≠(u7 : Value).ownBlock∧some l≠(e8 : Value).ownBlock∧l≠u) u8 x8_2)∧Aside0 (Kd.R Kd.bool 4 w' w.heap.size (fun _=>True) e8 x15_3)∧Aside0 (Kd.V (Kd.int .u64) 42 w' w.heap.size (fun l=>some l≠(u7 : Value).ownBlock∧some l≠(u8 : Value).ownBlock∧some l≠(e8 : Value).ownBlock∧l≠u) W A)∧Aside0 (w'.heap[u]? = some (.cells #[W,.bool z] 34 (0,0)))∧Aside0 (Below w.heap.size w w'))
         case atStart=>exact ⟨(x7_2),(x9_2),(y696),(by first|rfl|(simp;done)|(simp [*];done)),H',⟨Nat.le_refl _⟩,⟨kr x.out⟩,⟨by (with_reducible repeat (first|apply Kd.N_alloc|apply Kd.N_drewN|apply Kd.N_drew));exact Kd.N_mono s.out (fun _ hk=>⟨hk.1.1,⟨hk.2,hk.1.2⟩⟩)⟩,⟨kr n6.out⟩,⟨kv (Kd.V_mono d.out (fun _ hk=>⟨hk.1.1,⟨hk.1.2.1,⟨hk.2,hk.1.2.2⟩⟩⟩))⟩,⟨by (with_reducible repeat (first|apply kb1|apply kb2|apply kb3));exact m.out⟩,⟨by repeat (first|(with_reducible first|exact HB.out|apply kc1|apply kc2|apply kc3|refine kc4 ?_ b2.out)|exact HB.out)⟩⟩
         case round=>
          clear H';try clear c1
          try clear c2
          try clear p2
          try clear c4
          try clear c6
          try clear p6
          try clear c14
          try clear c15
          try clear c16
          try clear c17
          try clear c17b0
          try clear c19
          try clear c24
          try clear c25
          try clear c26
          try clear c28
          try clear c41
          try clear c48
          try clear c49
          try clear c61
          try clear c61b0
          try clear c61b1
          try clear c62
          try clear c62b0
          try clear c62b1
          try clear p64
          try clear i1
          try clear i2
          try clear i3
          obtain ⟨x7_3,x9_3,x15_3,rfl,HA,HK3,x,s,G,d,m,HB⟩:=hrel;cases gk with
          | zero=>exact absurd HA.out (by simp [trivetref03_Shares.l2])
          | succ k3=>
           have H:=HA.out;clear HA;simp only [trivetref03_Shares.l2] at H
           by_cases c65 : x9_3 > 0
           ·rw [if_pos c65] at H
            have c65b0 : decide (0 < x9_3) = true:=decide_eq_true c65;clear c65;have H':=ka H;clear H;go_wp2
            (try simp only [Act.put,List.setIfInBounds_toArray,List.set_cons_zero,List.set_cons_succ]);go_loopg [16,17] k3 (fun kq r3 r4 w'=>∃ (x16_4 : Int) (x17_4 : Int),r3 = .int .i64 x16_4∧r4 = .int .i64 x17_4∧Aside0 (trivetref03_Shares.l3 kq l1 x7_3 x8_2 x9_3 x15_3 x16_4 x17_4 = some r)∧Aside0 (kq≤k3)∧Aside0 (Kd.R (Kd.int .i64) 2 w' w.heap.size (fun _=>True) u7 x7_3)∧Aside0 (Kd.N k34 34 w' w.heap.size (fun l=>some l≠(u7 : Value).ownBlock∧some l≠(e8 : Value).ownBlock∧l≠u) u8 x8_2)∧Aside0 (Kd.R Kd.bool 4 w' w.heap.size (fun _=>True) e8 x15_3)∧Aside0 (Kd.V (Kd.int .u64) 42 w' w.heap.size (fun l=>some l≠(u7 : Value).ownBlock∧some l≠(u8 : Value).ownBlock∧some l≠(e8 : Value).ownBlock∧l≠u) W A)∧Aside0 (w'.heap[u]? = some (.cells #[W,.bool z] 34 (0,0)))∧Aside0 (Below w.heap.size w w'))
            case atStart=>exact ⟨((-1)),(0),(by first|rfl|(simp;done)|(simp [*];done)),(by first|rfl|(simp;done)|(simp [*];done)),H',⟨Nat.le_refl _⟩,⟨kr x.out⟩,⟨by (with_reducible repeat (first|apply Kd.N_alloc|apply Kd.N_drewN|apply Kd.N_drew));exact s.out⟩,⟨kr G.out⟩,⟨kv d.out⟩,⟨by (with_reducible repeat (first|apply kb1|apply kb2|apply kb3));exact m.out⟩,⟨by repeat (first|(with_reducible first|exact HB.out|apply kc1|apply kc2|apply kc3|refine kc4 ?_ b2.out)|exact HB.out)⟩⟩
            case round=>
             clear H';try clear c1
             try clear c2
             try clear p2
             try clear c4
             try clear c6
             try clear p6
             try clear c14
             try clear c15
             try clear c16
             try clear c17
             try clear c17b0
             try clear c19
             try clear c24
             try clear c25
             try clear c26
             try clear c28
             try clear c41
             try clear c48
             try clear c49
             try clear c61
             try clear c61b0
             try clear c61b1
             try clear c62
             try clear c62b0
             try clear c62b1
             try clear p64
             try clear c65
             try clear c65b0
             try clear i1
             try clear i2
             try clear i3
             try clear p2
             try clear p6
             try clear p64
             obtain ⟨x16_4,x17_4,rfl,rfl,HA,HK4,x,s,G,d,m,HB⟩:=hrel;cases gk with
             | zero=>exact absurd HA.out (by simp [trivetref03_Shares.l3])
             | succ k4=>
              have H:=HA.out;clear HA;simp only [trivetref03_Shares.l3] at H
              by_cases c66 : x17_4 < (l1.length : Int)
              ·rw [if_pos c66] at H
               have c66b0 : decide (x17_4 < (l1.length : Int)) = true:=decide_eq_true c66;clear c66;by_cases c67 : 0≤x17_4
               ·rw [if_pos c67] at H
                have c67b0 : decide (0≤x17_4) = true:=decide_eq_true c67;clear c67;by_cases c68 : x17_4 < (x15_3.length : Int)
                ·rw [if_pos c68] at H
                 have c68b0 : decide (x17_4 < (x15_3.length : Int)) = true:=decide_eq_true c68;clear c68;obtain ⟨bq69,hbq69⟩ : ∃ b_ : Bool,b_ = (rdOf false x15_3 x17_4):=⟨_,rfl⟩
                 replace H : (if bq69 = true then (trivetref03_Shares.l3 k4 l1 x7_3 x8_2 x9_3 x15_3 x16_4 (wrap64 (x17_4 + 1))) else (if x16_4 < 0 then (trivetref03_Shares.l3 k4 l1 x7_3 x8_2 x9_3 x15_3 x17_4 (wrap64 (x17_4 + 1))) else (if x17_4 < (x8_2.length : Int) then (if 0≤x16_4 then (if x16_4 < (x8_2.length : Int) then ((trivetref01_Cmp.f k4 ((rd_T34 x8_2 x17_4).f0) ((rd_T34 x8_2 x17_4).f1) ((rd_T34 x8_2 x16_4).f0) ((rd_T34 x8_2 x16_4).f1)).bind fun c0=>(if c0 > 0 then (trivetref03_Shares.l3 k4 l1 x7_3 x8_2 x9_3 x15_3 x17_4 (wrap64 (x17_4 + 1))) else (trivetref03_Shares.l3 k4 l1 x7_3 x8_2 x9_3 x15_3 x16_4 (wrap64 (x17_4 + 1))))) else (none)) else (none)) else (none)))) = some r:=by rw [← hbq69] at H;exact H
                 have Nbq69:=ka hbq69;clear hbq69;by_cases c70 : bq69 = true
                 ·subst c70;have H1 : (trivetref03_Shares.l3 k4 l1 x7_3 x8_2 x9_3 x15_3 x16_4 (wrap64 (x17_4 + 1))) = some r:=by rw [if_pos rfl] at H;exact H
                  clear H;have H:=H1;clear H1;have H':=ka H;clear H;try go_wp2
                  replace x:=ka (Kd.R_drew x.out);replace s:=ka (Kd.N_drew s.out);replace G:=ka (Kd.R_drew G.out);replace d:=ka (Kd.V_drew d.out);replace m:=ka (blk_drew m.out);replace HB:=ka (below_drew1 HB.out);obtain ⟨u0,u1,m1⟩:=Kd.R_slice G.out;(first|subst m1|(injection m1 with f1_ f2_ f3_;have f4_:=f1_.symm;have f5_:=f3_.symm;clear f1_ f2_ f3_;subst f4_;subst f5_));have p699 : 0≤(x17_4 : Int):=of_decide_eq_true (by first|(with_reducible assumption)|assumption);have q699 : x17_4 < (x15_3.length : Int):=of_decide_eq_true (by first|(with_reducible assumption)|assumption);obtain ⟨ad699,e699,hx699_0⟩:=Kd.at_bool (Kd.R_reads' G.out).2.2 x17_4 p699 q699;(try rw [← Nbq69.out] at hx699_0);cases e699
                  replace p699:=eq_true p699;replace q699:=eq_true q699;refine start_ (n:=21) (S:=fun w'=>w'.cell? (ad699.add (x17_4).toNat) = some (.bool true)) (ds:=[]) #[false,false,false,false,false,false,false,false,false,false,false,false,false,false,false,false,false,false,false,false,false] (by kernel_rfl) rfl rfl (hx699_0) (fun hHeld=>?_);refine with_tabW trivetref03_Shares.tab24 trivetref03_Shares.bits24 (fun HT_ HW_=>?_);generalize wr.drew = y5 at x s G d m HB hx699_0 hHeld ⊢;refine pure_ (i:=0) (N:=some 82) (v:=?_) (a':=?_) #[true,false,false,false,false,false,false,false,false,false,false,false,false,false,false,false,false,false,false,false,false] rfl rfl (any_of HT_.out (by kernel_rfl)) (fun _ _ _ h=>h) (Or.inl ⟨by rfl,?_⟩) ?_ ?_;rotate_left
                  ·intro w';go_simp
                   with_reducible rfl
                  rotate_left
                  ·simp only [Act.put,List.setIfInBounds_toArray,List.set_cons_zero,List.set_cons_succ,i64_w,i32_w]
                   rfl
                  refine pure_ (i:=1) (N:=some 83) (v:=?_) (a':=?_) #[true,true,false,false,false,false,false,false,false,false,false,false,false,false,false,false,false,false,false,false,false] rfl rfl (any_of HT_.out (by kernel_rfl)) (fun _ _ _ h=>h) (Or.inl ⟨by rfl,?_⟩) ?_ ?_;rotate_left
                  ·intro w';go_simp
                   with_reducible rfl
                  rotate_left
                  ·simp only [Act.put,List.setIfInBounds_toArray,List.set_cons_zero,List.set_cons_succ,i64_w,i32_w]
                   rfl
                  refine pure_ (i:=2) (N:=some 84) (v:=?_) (a':=?_) #[true,true,true,false,false,false,false,false,false,false,false,false,false,false,false,false,false,false,false,false,false] rfl rfl (any_of HT_.out (by kernel_rfl)) (fun _ _ _ h=>h) (Or.inl ⟨by rfl,?_⟩) ?_ ?_;rotate_left
                  ·intro w';go_simp
                   with_reducible rfl
                  rotate_left
                  ·simp only [Act.put,List.setIfInBounds_toArray,List.set_cons_zero,List.set_cons_succ,i64_w,i32_w]
                   rfl
                  refine take_ (i:=3) (N:=some 85) (v:=?_) (a':=?_) #[true,true,true,true,false,false,false,false,false,false,false,false,false,false,false,false,false,false,false,false,false] rfl rfl (take_ofW HT_.out HW_.out (by kernel_rfl)) (fun _ _ _ h=>h) (Or.inl ⟨by rfl,?_⟩) hHeld ?_ ?_;rotate_left
                  ·intro w' s0;go_simp
                   with_reducible rfl
                  rotate_left
                  ·simp only [Act.put,List.setIfInBounds_toArray,List.set_cons_zero,List.set_cons_succ,i64_w,i32_w]
                   rfl
                  refine pure_ (i:=4) (N:=some 86) (v:=?_) (a':=?_) #[true,true,true,true,true,false,false,false,false,false,false,false,false,false,false,false,false,false,false,false,false] rfl rfl (any_of HT_.out (by kernel_rfl)) (fun _ _ _ h=>h) (Or.inl ⟨by rfl,?_⟩) ?_ ?_;rotate_left
                  ·intro w';go_simp
                   with_reducible rfl
                  rotate_left
                  ·simp only [Act.put,List.setIfInBounds_toArray,List.set_cons_zero,List.set_cons_succ,i64_w,i32_w]
                   rfl
                  refine pure_ (i:=5) (N:=some 87) (v:=?_) (a':=?_) #[true,true,true,true,true,true,false,false,false,false,false,false,false,false,false,false,false,false,false,false,false] rfl rfl (any_of HT_.out (by kernel_rfl)) (fun _ _ _ h=>h) (Or.inl ⟨by rfl,?_⟩) ?_ ?_;rotate_left
                  ·intro w';go_simp
                   with_reducible rfl
                  rotate_left
                  ·simp only [Act.put,List.setIfInBounds_toArray,List.set_cons_zero,List.set_cons_succ,i64_w,i32_w]
                   rfl
                  refine pure_ (i:=6) (N:=some 88) (v:=undef) (a':=?_) #[true,true,true,true,true,true,true,false,false,false,false,false,false,false,false,false,false,false,false,false,false] rfl rfl (any_of HT_.out (by kernel_rfl)) (fun _ _ _ h=>h) (Or.inr ⟨by rfl,rfl⟩) ?_ ?_;rotate_left
                  ·simp only [Act.put,List.setIfInBounds_toArray,List.set_cons_zero,List.set_cons_succ,i64_w,i32_w]
                   rfl
                  refine pure_ (i:=7) (N:=some 89) (v:=undef) (a':=?_) #[true,true,true,true,true,true,true,true,false,false,false,false,false,false,false,false,false,false,false,false,false] rfl rfl (any_of HT_.out (by kernel_rfl)) (fun _ _ _ h=>h) (Or.inr ⟨by rfl,rfl⟩) ?_ ?_;rotate_left
                  ·simp only [Act.put,List.setIfInBounds_toArray,List.set_cons_zero,List.set_cons_succ,i64_w,i32_w]
                   rfl
                  refine pure_ (i:=8) (N:=some 90) (v:=undef) (a':=?_) #[true,true,true,true,true,true,true,true,true,false,false,false,false,false,false,false,false,false,false,false,false] rfl rfl (any_of HT_.out (by kernel_rfl)) (fun _ _ _ h=>h) (Or.inr ⟨by rfl,rfl⟩) ?_ ?_;rotate_left
                  ·simp only [Act.put,List.setIfInBounds_toArray,List.set_cons_zero,List.set_cons_succ,i64_w,i32_w]
                   rfl
                  refine pure_ (i:=9) (N:=some 91) (v:=undef) (a':=?_) #[true,true,true,true,true,true,true,true,true,true,false,false,false,false,false,false,false,false,false,false,false] rfl rfl (any_of HT_.out (by kernel_rfl)) (fun _ _ _ h=>h) (Or.inr ⟨by rfl,rfl⟩) ?_ ?_;rotate_left
                  ·simp only [Act.put,List.setIfInBounds_toArray,List.set_cons_zero,List.set_cons_succ,i64_w,i32_w]
                   rfl
                  refine pure_ (i:=10) (N:=some 92) (v:=undef) (a':=?_) #[true,true,true,true,true,true,true,true,true,true,true,false,false,false,false,false,false,false,false,false,false] rfl rfl (any_of HT_.out (by kernel_rfl)) (fun _ _ _ h=>h) (Or.inr ⟨by rfl,rfl⟩) ?_ ?_;rotate_left
                  ·simp only [Act.put,List.setIfInBounds_toArray,List.set_cons_zero,List.set_cons_succ,i64_w,i32_w]
                   rfl
                  refine pure_ (i:=11) (N:=some 93) (v:=undef) (a':=?_) #[true,true,true,true,true,true,true,true,true,true,true,true,false,false,false,false,false,false,false,false,false] rfl rfl (any_of HT_.out (by kernel_rfl)) (fun _ _ _ h=>h) (Or.inr ⟨by rfl,rfl⟩) ?_ ?_;rotate_left
                  ·simp only [Act.put,List.setIfInBounds_toArray,List.set_cons_zero,List.set_cons_succ,i64_w,i32_w]
                   rfl
                  refine pure_ (i:=12) (N:=some 94) (v:=undef) (a':=?_) #[true,true,true,true,true,true,true,true,true,true,true,true,true,false,false,false,false,false,false,false,false] rfl rfl (any_of HT_.out (by kernel_rfl)) (fun _ _ _ h=>h) (Or.inr ⟨by rfl,rfl⟩) ?_ ?_;rotate_left
                  ·simp only [Act.put,List.setIfInBounds_toArray,List.set_cons_zero,List.set_cons_succ,i64_w,i32_w]
                   rfl
                  refine pure_ (i:=13) (N:=some 95) (v:=undef) (a':=?_) #[true,true,true,true,true,true,true,true,true,true,true,true,true,true,false,false,false,false,false,false,false] rfl rfl (any_of HT_.out (by kernel_rfl)) (fun _ _ _ h=>h) (Or.inr ⟨by rfl,rfl⟩) ?_ ?_;rotate_left
                  ·simp only [Act.put,List.setIfInBounds_toArray,List.set_cons_zero,List.set_cons_succ,i64_w,i32_w]
                   rfl
                  refine pure_ (i:=14) (N:=some 96) (v:=undef) (a':=?_) #[true,true,true,true,true,true,true,true,true,true,true,true,true,true,true,false,false,false,false,false,false] rfl rfl (any_of HT_.out (by kernel_rfl)) (fun _ _ _ h=>h) (Or.inr ⟨by rfl,rfl⟩) ?_ ?_;rotate_left
                  ·simp only [Act.put,List.setIfInBounds_toArray,List.set_cons_zero,List.set_cons_succ,i64_w,i32_w]
                   rfl
                  refine pure_ (i:=15) (N:=some 97) (v:=undef) (a':=?_) #[true,true,true,true,true,true,true,true,true,true,true,true,true,true,true,true,false,false,false,false,false] rfl rfl (any_of HT_.out (by kernel_rfl)) (fun _ _ _ h=>h) (Or.inr ⟨by rfl,rfl⟩) ?_ ?_;rotate_left
                  ·simp only [Act.put,List.setIfInBounds_toArray,List.set_cons_zero,List.set_cons_succ,i64_w,i32_w]
                   rfl
                  refine pure_ (i:=16) (N:=some 98) (v:=undef) (a':=?_) #[true,true,true,true,true,true,true,true,true,true,true,true,true,true,true,true,true,false,false,false,false] rfl rfl (any_of HT_.out (by kernel_rfl)) (fun _ _ _ h=>h) (Or.inr ⟨by rfl,rfl⟩) ?_ ?_;rotate_left
                  ·simp only [Act.put,List.setIfInBounds_toArray,List.set_cons_zero,List.set_cons_succ,i64_w,i32_w]
                   rfl
                  refine pure_ (i:=17) (N:=some 99) (v:=undef) (a':=?_) #[true,true,true,true,true,true,true,true,true,true,true,true,true,true,true,true,true,true,false,false,false] rfl rfl (any_of HT_.out (by kernel_rfl)) (fun _ _ _ h=>h) (Or.inr ⟨by rfl,rfl⟩) ?_ ?_;rotate_left
                  ·simp only [Act.put,List.setIfInBounds_toArray,List.set_cons_zero,List.set_cons_succ,i64_w,i32_w]
                   rfl
                  refine pure_ (i:=18) (N:=some 100) (v:=undef) (a':=?_) #[true,true,true,true,true,true,true,true,true,true,true,true,true,true,true,true,true,true,true,false,false] rfl rfl (any_of HT_.out (by kernel_rfl)) (fun _ _ _ h=>h) (Or.inr ⟨by rfl,rfl⟩) ?_ ?_;rotate_left
                  ·simp only [Act.put,List.setIfInBounds_toArray,List.set_cons_zero,List.set_cons_succ,i64_w,i32_w]
                   rfl
                  refine pure_ (i:=19) (N:=some 101) (v:=undef) (a':=?_) #[true,true,true,true,true,true,true,true,true,true,true,true,true,true,true,true,true,true,true,true,false] rfl rfl (any_of HT_.out (by kernel_rfl)) (fun _ _ _ h=>h) (Or.inr ⟨by rfl,rfl⟩) ?_ ?_;rotate_left
                  ·simp only [Act.put,List.setIfInBounds_toArray,List.set_cons_zero,List.set_cons_succ,i64_w,i32_w]
                   rfl
                  refine pure_ (i:=20) (N:=some 102) (v:=?_) (a':=?_) #[true,true,true,true,true,true,true,true,true,true,true,true,true,true,true,true,true,true,true,true,true] rfl rfl (any_of HT_.out (by kernel_rfl)) (fun _ _ _ h=>h) (Or.inl ⟨by rfl,?_⟩) ?_ ?_;rotate_left
                  ·intro w';go_simp
                   with_reducible rfl
                  rotate_left
                  ·simp only [Act.put,List.setIfInBounds_toArray,List.set_cons_zero,List.set_cons_succ,i64_w,i32_w]
                   rfl
                  refine done_ (done_of HT_.out (by kernel_rfl)) ?_;try go_wp2
                  go_roundg k4
                  case measure=>have:=HK1.out;have:=HK2.out;have:=HK3.out;have:=HK4.out;omega
                  case rel=>exact ⟨(x16_4),(wrap64 (x17_4 + 1)),(by first|rfl|(simp;done)|(simp [*];done)),(by first|rfl|(simp;done)|(simp [*];done)),H',⟨by have:=HK1.out;have:=HK2.out;have:=HK3.out;have:=HK4.out;omega⟩,⟨kr x.out⟩,⟨by (with_reducible repeat (first|apply Kd.N_alloc|apply Kd.N_drewN|apply Kd.N_drew));exact s.out⟩,⟨kr G.out⟩,⟨kv d.out⟩,⟨by (with_reducible repeat (first|apply kb1|apply kb2|apply kb3));exact m.out⟩,⟨by repeat (first|(with_reducible first|exact HB.out|apply kc1|apply kc2|apply kc3|refine kc4 ?_ b2.out)|exact HB.out)⟩⟩
                 ·replace c70:=Bool.eq_false_iff.mpr c70;subst c70;have H1 : (if x16_4 < 0 then (trivetref03_Shares.l3 k4 l1 x7_3 x8_2 x9_3 x15_3 x17_4 (wrap64 (x17_4 + 1))) else (if x17_4 < (x8_2.length : Int) then (if 0≤x16_4 then (if x16_4 < (x8_2.length : Int) then ((trivetref01_Cmp.f k4 ((rd_T34 x8_2 x17_4).f0) ((rd_T34 x8_2 x17_4).f1) ((rd_T34 x8_2 x16_4).f0) ((rd_T34 x8_2 x16_4).f1)).bind fun c0=>(if c0 > 0 then (trivetref03_Shares.l3 k4 l1 x7_3 x8_2 x9_3 x15_3 x17_4 (wrap64 (x17_4 + 1))) else (trivetref03_Shares.l3 k4 l1 x7_3 x8_2 x9_3 x15_3 x16_4 (wrap64 (x17_4 + 1))))) else (none)) else (none)) else (none))) = some r:=by rw [if_neg (show ¬ (false = true) by decide)] at H;exact H
                  clear H;have H:=H1;clear H1;by_cases c73 : x16_4 < 0
                  ·rw [if_pos c73] at H
                   have c73b0 : decide (x16_4 < 0) = true:=decide_eq_true c73;clear c73;have H':=ka H;clear H;try go_wp2
                   replace x:=ka (Kd.R_drew x.out);replace s:=ka (Kd.N_drew s.out);replace G:=ka (Kd.R_drew G.out);replace d:=ka (Kd.V_drew d.out);replace m:=ka (blk_drew m.out);replace HB:=ka (below_drew1 HB.out);obtain ⟨u2,u3,m2⟩:=Kd.R_slice G.out;(first|subst m2|(injection m2 with f1_ f2_ f3_;have f4_:=f1_.symm;have f5_:=f3_.symm;clear f1_ f2_ f3_;subst f4_;subst f5_));have p699 : 0≤(x17_4 : Int):=of_decide_eq_true (by first|(with_reducible assumption)|assumption);have q699 : x17_4 < (x15_3.length : Int):=of_decide_eq_true (by first|(with_reducible assumption)|assumption);obtain ⟨ad699,e699,hx699_0⟩:=Kd.at_bool (Kd.R_reads' G.out).2.2 x17_4 p699 q699;(try rw [← Nbq69.out] at hx699_0);cases e699
                   replace p699:=eq_true p699;replace q699:=eq_true q699;refine start_ (n:=21) (S:=fun w'=>w'.cell? (ad699.add (x17_4).toNat) = some (.bool false)) (ds:=[]) #[false,false,false,false,false,false,false,false,false,false,false,false,false,false,false,false,false,false,false,false,false] (by kernel_rfl) rfl rfl (hx699_0) (fun hHeld=>?_);refine with_tabW trivetref03_Shares.tab24 trivetref03_Shares.bits24 (fun HT_ HW_=>?_);generalize wr.drew = y6 at x s G d m HB hx699_0 hHeld ⊢;refine pure_ (i:=0) (N:=some 82) (v:=?_) (a':=?_) #[true,false,false,false,false,false,false,false,false,false,false,false,false,false,false,false,false,false,false,false,false] rfl rfl (any_of HT_.out (by kernel_rfl)) (fun _ _ _ h=>h) (Or.inl ⟨by rfl,?_⟩) ?_ ?_;rotate_left
                   ·intro w';go_simp
                    with_reducible rfl
                   rotate_left
                   ·simp only [Act.put,List.setIfInBounds_toArray,List.set_cons_zero,List.set_cons_succ,i64_w,i32_w]
                    rfl
                   refine pure_ (i:=1) (N:=some 83) (v:=?_) (a':=?_) #[true,true,false,false,false,false,false,false,false,false,false,false,false,false,false,false,false,false,false,false,false] rfl rfl (any_of HT_.out (by kernel_rfl)) (fun _ _ _ h=>h) (Or.inl ⟨by rfl,?_⟩) ?_ ?_;rotate_left
                   ·intro w';go_simp
                    with_reducible rfl
                   rotate_left
                   ·simp only [Act.put,List.setIfInBounds_toArray,List.set_cons_zero,List.set_cons_succ,i64_w,i32_w]
                    rfl
                   refine pure_ (i:=2) (N:=some 84) (v:=?_) (a':=?_) #[true,true,true,false,false,false,false,false,false,false,false,false,false,false,false,false,false,false,false,false,false] rfl rfl (any_of HT_.out (by kernel_rfl)) (fun _ _ _ h=>h) (Or.inl ⟨by rfl,?_⟩) ?_ ?_;rotate_left
                   ·intro w';go_simp
                    with_reducible rfl
                   rotate_left
                   ·simp only [Act.put,List.setIfInBounds_toArray,List.set_cons_zero,List.set_cons_succ,i64_w,i32_w]
                    rfl
                   refine take_ (i:=3) (N:=some 85) (v:=?_) (a':=?_) #[true,true,true,true,false,false,false,false,false,false,false,false,false,false,false,false,false,false,false,false,false] rfl rfl (take_ofW HT_.out HW_.out (by kernel_rfl)) (fun _ _ _ h=>h) (Or.inl ⟨by rfl,?_⟩) hHeld ?_ ?_;rotate_left
                   ·intro w' s0;go_simp
                    with_reducible rfl
                   rotate_left
                   ·simp only [Act.put,List.setIfInBounds_toArray,List.set_cons_zero,List.set_cons_succ,i64_w,i32_w]
                    rfl
                   refine pure_ (i:=4) (N:=some 86) (v:=?_) (a':=?_) #[true,true,true,true,true,false,false,false,false,false,false,false,false,false,false,false,false,false,false,false,false] rfl rfl (any_of HT_.out (by kernel_rfl)) (fun _ _ _ h=>h) (Or.inl ⟨by rfl,?_⟩) ?_ ?_;rotate_left
                   ·intro w';go_simp
                    with_reducible rfl
                   rotate_left
                   ·simp only [Act.put,List.setIfInBounds_toArray,List.set_cons_zero,List.set_cons_succ,i64_w,i32_w]
                    rfl
                   refine pure_ (i:=5) (N:=some 87) (v:=?_) (a':=?_) #[true,true,true,true,true,true,false,false,false,false,false,false,false,false,false,false,false,false,false,false,false] rfl rfl (any_of HT_.out (by kernel_rfl)) (fun _ _ _ h=>h) (Or.inl ⟨by rfl,?_⟩) ?_ ?_;rotate_left
                   ·intro w';go_simp
                    with_reducible rfl
                   rotate_left
                   ·simp only [Act.put,List.setIfInBounds_toArray,List.set_cons_zero,List.set_cons_succ,i64_w,i32_w]
                    rfl
                   refine pure_ (i:=6) (N:=some 88) (v:=?_) (a':=?_) #[true,true,true,true,true,true,true,false,false,false,false,false,false,false,false,false,false,false,false,false,false] rfl rfl (any_of HT_.out (by kernel_rfl)) (fun _ _ _ h=>h) (Or.inl ⟨by rfl,?_⟩) ?_ ?_;rotate_left
                   ·intro w';go_simp
                    with_reducible rfl
                   rotate_left
                   ·simp only [Act.put,List.setIfInBounds_toArray,List.set_cons_zero,List.set_cons_succ,i64_w,i32_w]
                    rfl
                   refine pure_ (i:=7) (N:=some 89) (v:=?_) (a':=?_) #[true,true,true,true,true,true,true,true,false,false,false,false,false,false,false,false,false,false,false,false,false] rfl rfl (any_of HT_.out (by kernel_rfl)) (fun _ _ _ h=>h) (Or.inl ⟨by rfl,?_⟩) ?_ ?_;rotate_left
                   ·intro w';go_simp
                    with_reducible rfl
                   rotate_left
                   ·simp only [Act.put,List.setIfInBounds_toArray,List.set_cons_zero,List.set_cons_succ,i64_w,i32_w]
                    rfl
                   refine pure_ (i:=8) (N:=some 90) (v:=?_) (a':=?_) #[true,true,true,true,true,true,true,true,true,false,false,false,false,false,false,false,false,false,false,false,false] rfl rfl (any_of HT_.out (by kernel_rfl)) (fun _ _ _ h=>h) (Or.inl ⟨by rfl,?_⟩) ?_ ?_;rotate_left
                   ·intro w';go_simp
                    with_reducible rfl
                   rotate_left
                   ·simp only [Act.put,List.setIfInBounds_toArray,List.set_cons_zero,List.set_cons_succ,i64_w,i32_w]
                    rfl
                   refine pure_ (i:=9) (N:=some 91) (v:=undef) (a':=?_) #[true,true,true,true,true,true,true,true,true,true,false,false,false,false,false,false,false,false,false,false,false] rfl rfl (any_of HT_.out (by kernel_rfl)) (fun _ _ _ h=>h) (Or.inr ⟨by rfl,rfl⟩) ?_ ?_;rotate_left
                   ·simp only [Act.put,List.setIfInBounds_toArray,List.set_cons_zero,List.set_cons_succ,i64_w,i32_w]
                    rfl
                   refine pure_ (i:=10) (N:=some 92) (v:=undef) (a':=?_) #[true,true,true,true,true,true,true,true,true,true,true,false,false,false,false,false,false,false,false,false,false] rfl rfl (any_of HT_.out (by kernel_rfl)) (fun _ _ _ h=>h) (Or.inr ⟨by rfl,rfl⟩) ?_ ?_;rotate_left
                   ·simp only [Act.put,List.setIfInBounds_toArray,List.set_cons_zero,List.set_cons_succ,i64_w,i32_w]
                    rfl
                   refine pure_ (i:=11) (N:=some 93) (v:=undef) (a':=?_) #[true,true,true,true,true,true,true,true,true,true,true,true,false,false,false,false,false,false,false,false,false] rfl rfl (any_of HT_.out (by kernel_rfl)) (fun _ _ _ h=>h) (Or.inr ⟨by rfl,rfl⟩) ?_ ?_;rotate_left
                   ·simp only [Act.put,List.setIfInBounds_toArray,List.set_cons_zero,List.set_cons_succ,i64_w,i32_w]
                    rfl
                   refine pure_ (i:=12) (N:=some 94) (v:=undef) (a':=?_) #[true,true,true,true,true,true,true,true,true,true,true,true,true,false,false,false,false,false,false,false,false] rfl rfl (any_of HT_.out (by kernel_rfl)) (fun _ _ _ h=>h) (Or.inr ⟨by rfl,rfl⟩) ?_ ?_;rotate_left
                   ·simp only [Act.put,List.setIfInBounds_toArray,List.set_cons_zero,List.set_cons_succ,i64_w,i32_w]
                    rfl
                   refine pure_ (i:=13) (N:=some 95) (v:=undef) (a':=?_) #[true,true,true,true,true,true,true,true,true,true,true,true,true,true,false,false,false,false,false,false,false] rfl rfl (any_of HT_.out (by kernel_rfl)) (fun _ _ _ h=>h) (Or.inr ⟨by rfl,rfl⟩) ?_ ?_;rotate_left
                   ·simp only [Act.put,List.setIfInBounds_toArray,List.set_cons_zero,List.set_cons_succ,i64_w,i32_w]
                    rfl
                   refine pure_ (i:=14) (N:=some 96) (v:=undef) (a':=?_) #[true,true,true,true,true,true,true,true,true,true,true,true,true,true,true,false,false,false,false,false,false] rfl rfl (any_of HT_.out (by kernel_rfl)) (fun _ _ _ h=>h) (Or.inr ⟨by rfl,rfl⟩) ?_ ?_;rotate_left
                   ·simp only [Act.put,List.setIfInBounds_toArray,List.set_cons_zero,List.set_cons_succ,i64_w,i32_w]
                    rfl
                   refine pure_ (i:=15) (N:=some 97) (v:=undef) (a':=?_) #[true,true,true,true,true,true,true,true,true,true,true,true,true,true,true,true,false,false,false,false,false] rfl rfl (any_of HT_.out (by kernel_rfl)) (fun _ _ _ h=>h) (Or.inr ⟨by rfl,rfl⟩) ?_ ?_;rotate_left
                   ·simp only [Act.put,List.setIfInBounds_toArray,List.set_cons_zero,List.set_cons_succ,i64_w,i32_w]
                    rfl
                   refine pure_ (i:=16) (N:=some 98) (v:=undef) (a':=?_) #[true,true,true,true,true,true,true,true,true,true,true,true,true,true,true,true,true,false,false,false,false] rfl rfl (any_of HT_.out (by kernel_rfl)) (fun _ _ _ h=>h) (Or.inr ⟨by rfl,rfl⟩) ?_ ?_;rotate_left
                   ·simp only [Act.put,List.setIfInBounds_toArray,List.set_cons_zero,List.set_cons_succ,i64_w,i32_w]
                    rfl
                   refine pure_ (i:=17) (N:=some 99) (v:=undef) (a':=?_) #[true,true,true,true,true,true,true,true,true,true,true,true,true,true,true,true,true,true,false,false,false] rfl rfl (any_of HT_.out (by kernel_rfl)) (fun _ _ _ h=>h) (Or.inr ⟨by rfl,rfl⟩) ?_ ?_;rotate_left
                   ·simp only [Act.put,List.setIfInBounds_toArray,List.set_cons_zero,List.set_cons_succ,i64_w,i32_w]
                    rfl
                   refine pure_ (i:=18) (N:=some 100) (v:=undef) (a':=?_) #[true,true,true,true,true,true,true,true,true,true,true,true,true,true,true,true,true,true,true,false,false] rfl rfl (any_of HT_.out (by kernel_rfl)) (fun _ _ _ h=>h) (Or.inr ⟨by rfl,rfl⟩) ?_ ?_;rotate_left
                   ·simp only [Act.put,List.setIfInBounds_toArray,List.set_cons_zero,List.set_cons_succ,i64_w,i32_w]
                    rfl
                   refine pure_ (i:=19) (N:=some 101) (v:=?_) (a':=?_) #[true,true,true,true,true,true,true,true,true,true,true,true,true,true,true,true,true,true,true,true,false] rfl rfl (any_of HT_.out (by kernel_rfl)) (fun _ _ _ h=>h) (Or.inl ⟨by rfl,?_⟩) ?_ ?_;rotate_left
                   ·intro w';go_simp
                    with_reducible rfl
                   rotate_left
                   ·simp only [Act.put,List.setIfInBounds_toArray,List.set_cons_zero,List.set_cons_succ,i64_w,i32_w]
                    rfl
                   refine pure_ (i:=20) (N:=some 102) (v:=?_) (a':=?_) #[true,true,true,true,true,true,true,true,true,true,true,true,true,true,true,true,true,true,true,true,true] rfl rfl (any_of HT_.out (by kernel_rfl)) (fun _ _ _ h=>h) (Or.inl ⟨by rfl,?_⟩) ?_ ?_;rotate_left
                   ·intro w';go_simp
                    with_reducible rfl
                   rotate_left
                   ·simp only [Act.put,List.setIfInBounds_toArray,List.set_cons_zero,List.set_cons_succ,i64_w,i32_w]
                    rfl
                   refine done_ (done_of HT_.out (by kernel_rfl)) ?_;try go_wp2
                   go_roundg k4
                   case measure=>have:=HK1.out;have:=HK2.out;have:=HK3.out;have:=HK4.out;omega
                   case rel=>exact ⟨(x17_4),(wrap64 (x17_4 + 1)),(by first|rfl|(simp;done)|(simp [*];done)),(by first|rfl|(simp;done)|(simp [*];done)),H',⟨by have:=HK1.out;have:=HK2.out;have:=HK3.out;have:=HK4.out;omega⟩,⟨kr x.out⟩,⟨by (with_reducible repeat (first|apply Kd.N_alloc|apply Kd.N_drewN|apply Kd.N_drew));exact s.out⟩,⟨kr G.out⟩,⟨kv d.out⟩,⟨by (with_reducible repeat (first|apply kb1|apply kb2|apply kb3));exact m.out⟩,⟨by repeat (first|(with_reducible first|exact HB.out|apply kc1|apply kc2|apply kc3|refine kc4 ?_ b2.out)|exact HB.out)⟩⟩
                  ·rw [if_neg c73] at H
                   have c73b0 : decide (x16_4 < 0) = false:=decide_eq_false c73;clear c73;by_cases c76 : x17_4 < (x8_2.length : Int)
                   ·rw [if_pos c76] at H
                    have c76b0 : decide (x17_4 < (x8_2.length : Int)) = true:=decide_eq_true c76;clear c76;by_cases c77 : 0≤x16_4
                    ·rw [if_pos c77] at H
                     have c77b0 : decide (0≤x16_4) = true:=decide_eq_true c77;clear c77;by_cases c78 : x16_4 < (x8_2.length : Int)
                     ·rw [if_pos c78] at H
                      have c78b0 : decide (x16_4 < (x8_2.length : Int)) = true:=decide_eq_true c78;clear c78;replace H:=Option.bind_eq_some_iff.mp H;obtain ⟨c0,m3,H⟩:=H;replace H : (if c0 > 0 then (trivetref03_Shares.l3 k4 l1 x7_3 x8_2 x9_3 x15_3 x17_4 (wrap64 (x17_4 + 1))) else (trivetref03_Shares.l3 k4 l1 x7_3 x8_2 x9_3 x15_3 x16_4 (wrap64 (x17_4 + 1)))) = some r:=H;have o4:=ka m3;clear m3;by_cases c80 : c0 > 0
                      ·rw [if_pos c80] at H
                       have c80b0 : decide (0 < c0) = true:=decide_eq_true c80;clear c80;have H':=ka H;clear H;try go_wp2
                       replace x:=ka (Kd.R_drew x.out);replace s:=ka (Kd.N_drew s.out);replace G:=ka (Kd.R_drew G.out);replace d:=ka (Kd.V_drew d.out);replace m:=ka (blk_drew m.out);replace HB:=ka (below_drew1 HB.out);obtain ⟨u4,u5,m4⟩:=Kd.R_slice G.out;(first|subst m4|(injection m4 with f1_ f2_ f3_;have f4_:=f1_.symm;have f5_:=f3_.symm;clear f1_ f2_ f3_;subst f4_;subst f5_));have p699 : 0≤(x17_4 : Int):=of_decide_eq_true (by first|(with_reducible assumption)|assumption);have q699 : x17_4 < (x15_3.length : Int):=of_decide_eq_true (by first|(with_reducible assumption)|assumption);obtain ⟨ad699,e699,hx699_0⟩:=Kd.at_bool (Kd.R_reads' G.out).2.2 x17_4 p699 q699;(try rw [← Nbq69.out] at hx699_0);cases e699
                       replace p699:=eq_true p699;replace q699:=eq_true q699;obtain ⟨u6,u9,m5⟩:=Kd.N_slice s.out;(first|subst m5|(injection m5 with f1_ f2_ f3_;have f4_:=f1_.symm;have f5_:=f3_.symm;clear f1_ f2_ f3_;subst f4_;subst f5_));have p700 : 0≤(x17_4 : Int):=of_decide_eq_true (by first|(with_reducible assumption)|assumption);have q700 : x17_4 < (x8_2.length : Int):=of_decide_eq_true (by first|(with_reducible assumption)|assumption);obtain ⟨ad700,A700_0,c700_0,e700,hx700_0,hx700_1,hl700_0,hi700_0⟩:=at_T34 (Kd.N_reads' s.out).2.2 x17_4 p700 q700;(try rw [← Nbq69.out] at hx700_1);cases e700
                       obtain ⟨ce700,hce700,hMe700,hcc700⟩:=Kd.N_get s.out z34 x17_4 p700 (by first|exact q700|exact of_decide_eq_true (by first|(with_reducible assumption)|assumption)|(have e_:=(Kd.N_reads' s.out).1;omega));obtain ⟨ua700_0,uc700_0,rfl,ul700_0,ge700_0⟩:=k34_openF hMe700;have hv700_0:=hcc700 0 _ rfl;rw [Nat.add_zero] at hv700_0
                       replace hv700_0:=Option.some.inj (hv700_0.symm.trans hx700_0);injection hv700_0 with hva_ hvn_ hvc_
                       rw [hva_] at ge700_0
                       rw [hvc_] at ul700_0
                       have HL700_0:=ka (show Kd.V (Kd.int .u64) 42 _ w.heap.size _ _ ((rd_T34 x8_2 x17_4).f0) from Kd.V_mk ul700_0 ge700_0);clear hva_ hvn_ hvc_ ge700_0 ul700_0;clear hcc700 hce700;have HR700_0:=ka hi700_0;have HC700_0:=ka hl700_0;clear hi700_0 hl700_0;replace p700:=eq_true p700;replace q700:=eq_true q700;have p701 : 0≤(x16_4 : Int):=of_decide_eq_true (by first|(with_reducible assumption)|assumption);have q701 : x16_4 < (x8_2.length : Int):=of_decide_eq_true (by first|(with_reducible assumption)|assumption);obtain ⟨ad701,A701_0,c701_0,e701,hx701_0,hx701_1,hl701_0,hi701_0⟩:=at_T34 (Kd.N_reads' s.out).2.2 x16_4 p701 q701;(try rw [← Nbq69.out] at hx701_1);obtain rfl : ad700 = ad701:=(by injection e701)
                       obtain ⟨ce701,hce701,hMe701,hcc701⟩:=Kd.N_get s.out z34 x16_4 p701 (by first|exact q701|exact of_decide_eq_true (by first|(with_reducible assumption)|assumption)|(have e_:=(Kd.N_reads' s.out).1;omega));obtain ⟨ua701_0,uc701_0,rfl,ul701_0,ge701_0⟩:=k34_openF hMe701;have hv701_0:=hcc701 0 _ rfl;rw [Nat.add_zero] at hv701_0
                       replace hv701_0:=Option.some.inj (hv701_0.symm.trans hx701_0);injection hv701_0 with hva_ hvn_ hvc_
                       rw [hva_] at ge701_0
                       rw [hvc_] at ul701_0
                       have HL701_0:=ka (show Kd.V (Kd.int .u64) 42 _ w.heap.size _ _ ((rd_T34 x8_2 x16_4).f0) from Kd.V_mk ul701_0 ge701_0);clear hva_ hvn_ hvc_ ge701_0 ul701_0;clear hcc701 hce701;have HR701_0:=ka hi701_0;have HC701_0:=ka hl701_0;clear hi701_0 hl701_0;replace p701:=eq_true p701;replace q701:=eq_true q701;refine start_ (n:=21) (S:=fun w'=>w'.cell? (ad699.add (x17_4).toNat) = some (.bool false)∧w'.cell? (ad700.add ((x17_4).toNat * 2)) = some (.slice A700_0 ((rd_T34 x8_2 x17_4).f0).length c700_0)∧w'.cell? ⟨(ad700.add ((x17_4).toNat * 2)).block,(ad700.add ((x17_4).toNat * 2)).off + 1,none⟩ = some (.bool ((rd_T34 x8_2 x17_4).f1))∧w'.cell? (ad700.add ((x16_4).toNat * 2)) = some (.slice A701_0 ((rd_T34 x8_2 x16_4).f0).length c701_0)∧w'.cell? ⟨(ad700.add ((x16_4).toNat * 2)).block,(ad700.add ((x16_4).toNat * 2)).off + 1,none⟩ = some (.bool ((rd_T34 x8_2 x16_4).f1))) (ds:=[]) #[false,false,false,false,false,false,false,false,false,false,false,false,false,false,false,false,false,false,false,false,false] (by kernel_rfl) rfl rfl ⟨hx699_0,hx700_0,hx700_1,hx701_0,hx701_1⟩ (fun hHeld=>?_);refine with_tabW trivetref03_Shares.tab24 trivetref03_Shares.bits24 (fun HT_ HW_=>?_);generalize wr.drew = y7 at x s G d m HB HL700_0 HL701_0 HR700_0 HR701_0 hx699_0 hx700_0 hx700_1 hx701_0 hx701_1 hHeld ⊢;refine pure_ (i:=0) (N:=some 82) (v:=?_) (a':=?_) #[true,false,false,false,false,false,false,false,false,false,false,false,false,false,false,false,false,false,false,false,false] rfl rfl (any_of HT_.out (by kernel_rfl)) (fun _ _ _ h=>h) (Or.inl ⟨by rfl,?_⟩) ?_ ?_;rotate_left
                       ·intro w';go_simp
                        with_reducible rfl
                       rotate_left
                       ·simp only [Act.put,List.setIfInBounds_toArray,List.set_cons_zero,List.set_cons_succ,i64_w,i32_w]
                        rfl
                       refine pure_ (i:=1) (N:=some 83) (v:=?_) (a':=?_) #[true,true,false,false,false,false,false,false,false,false,false,false,false,false,false,false,false,false,false,false,false] rfl rfl (any_of HT_.out (by kernel_rfl)) (fun _ _ _ h=>h) (Or.inl ⟨by rfl,?_⟩) ?_ ?_;rotate_left
                       ·intro w';go_simp
                        with_reducible rfl
                       rotate_left
                       ·simp only [Act.put,List.setIfInBounds_toArray,List.set_cons_zero,List.set_cons_succ,i64_w,i32_w]
                        rfl
                       refine pure_ (i:=2) (N:=some 84) (v:=?_) (a':=?_) #[true,true,true,false,false,false,false,false,false,false,false,false,false,false,false,false,false,false,false,false,false] rfl rfl (any_of HT_.out (by kernel_rfl)) (fun _ _ _ h=>h) (Or.inl ⟨by rfl,?_⟩) ?_ ?_;rotate_left
                       ·intro w';go_simp
                        with_reducible rfl
                       rotate_left
                       ·simp only [Act.put,List.setIfInBounds_toArray,List.set_cons_zero,List.set_cons_succ,i64_w,i32_w]
                        rfl
                       refine take_ (i:=3) (N:=some 85) (v:=?_) (a':=?_) #[true,true,true,true,false,false,false,false,false,false,false,false,false,false,false,false,false,false,false,false,false] rfl rfl (take_ofW HT_.out HW_.out (by kernel_rfl)) (fun _ _ _ h=>h) (Or.inl ⟨by rfl,?_⟩) hHeld ?_ ?_;rotate_left
                       ·rintro w' ⟨s0,s1,s2,s3,s4⟩;go_simp
                        with_reducible rfl
                       rotate_left
                       ·simp only [Act.put,List.setIfInBounds_toArray,List.set_cons_zero,List.set_cons_succ,i64_w,i32_w]
                        rfl
                       refine pure_ (i:=4) (N:=some 86) (v:=?_) (a':=?_) #[true,true,true,true,true,false,false,false,false,false,false,false,false,false,false,false,false,false,false,false,false] rfl rfl (any_of HT_.out (by kernel_rfl)) (fun _ _ _ h=>h) (Or.inl ⟨by rfl,?_⟩) ?_ ?_;rotate_left
                       ·intro w';go_simp
                        with_reducible rfl
                       rotate_left
                       ·simp only [Act.put,List.setIfInBounds_toArray,List.set_cons_zero,List.set_cons_succ,i64_w,i32_w]
                        rfl
                       refine pure_ (i:=5) (N:=some 87) (v:=?_) (a':=?_) #[true,true,true,true,true,true,false,false,false,false,false,false,false,false,false,false,false,false,false,false,false] rfl rfl (any_of HT_.out (by kernel_rfl)) (fun _ _ _ h=>h) (Or.inl ⟨by rfl,?_⟩) ?_ ?_;rotate_left
                       ·intro w';go_simp
                        with_reducible rfl
                       rotate_left
                       ·simp only [Act.put,List.setIfInBounds_toArray,List.set_cons_zero,List.set_cons_succ,i64_w,i32_w]
                        rfl
                       refine pure_ (i:=6) (N:=some 88) (v:=?_) (a':=?_) #[true,true,true,true,true,true,true,false,false,false,false,false,false,false,false,false,false,false,false,false,false] rfl rfl (any_of HT_.out (by kernel_rfl)) (fun _ _ _ h=>h) (Or.inl ⟨by rfl,?_⟩) ?_ ?_;rotate_left
                       ·intro w';go_simp
                        with_reducible rfl
                       rotate_left
                       ·simp only [Act.put,List.setIfInBounds_toArray,List.set_cons_zero,List.set_cons_succ,i64_w,i32_w]
                        rfl
                       refine pure_ (i:=7) (N:=some 89) (v:=?_) (a':=?_) #[true,true,true,true,true,true,true,true,false,false,false,false,false,false,false,false,false,false,false,false,false] rfl rfl (any_of HT_.out (by kernel_rfl)) (fun _ _ _ h=>h) (Or.inl ⟨by rfl,?_⟩) ?_ ?_;rotate_left
                       ·intro w';go_simp
                        with_reducible rfl
                       rotate_left
                       ·simp only [Act.put,List.setIfInBounds_toArray,List.set_cons_zero,List.set_cons_succ,i64_w,i32_w]
                        rfl
                       refine pure_ (i:=8) (N:=some 90) (v:=?_) (a':=?_) #[true,true,true,true,true,true,true,true,true,false,false,false,false,false,false,false,false,false,false,false,false] rfl rfl (any_of HT_.out (by kernel_rfl)) (fun _ _ _ h=>h) (Or.inl ⟨by rfl,?_⟩) ?_ ?_;rotate_left
                       ·intro w';go_simp
                        with_reducible rfl
                       rotate_left
                       ·simp only [Act.put,List.setIfInBounds_toArray,List.set_cons_zero,List.set_cons_succ,i64_w,i32_w]
                        rfl
                       refine pure_ (i:=9) (N:=some 91) (v:=?_) (a':=?_) #[true,true,true,true,true,true,true,true,true,true,false,false,false,false,false,false,false,false,false,false,false] rfl rfl (any_of HT_.out (by kernel_rfl)) (fun _ _ _ h=>h) (Or.inl ⟨by rfl,?_⟩) ?_ ?_;rotate_left
                       ·intro w';go_simp
                        with_reducible rfl
                       rotate_left
                       ·simp only [Act.put,List.setIfInBounds_toArray,List.set_cons_zero,List.set_cons_succ,i64_w,i32_w]
                        rfl
                       refine pure_ (i:=10) (N:=some 92) (v:=?_) (a':=?_) #[true,true,true,true,true,true,true,true,true,true,true,false,false,false,false,false,false,false,false,false,false] rfl rfl (any_of HT_.out (by kernel_rfl)) (fun _ _ _ h=>h) (Or.inl ⟨by rfl,?_⟩) ?_ ?_;rotate_left
                       ·intro w';go_simp
                        with_reducible rfl
                       rotate_left
                       ·simp only [Act.put,List.setIfInBounds_toArray,List.set_cons_zero,List.set_cons_succ,i64_w,i32_w]
                        rfl
                       refine pure_ (i:=11) (N:=some 93) (v:=?_) (a':=?_) #[true,true,true,true,true,true,true,true,true,true,true,true,false,false,false,false,false,false,false,false,false] rfl rfl (any_of HT_.out (by kernel_rfl)) (fun _ _ _ h=>h) (Or.inl ⟨by rfl,?_⟩) ?_ ?_;rotate_left
                       ·intro w';go_simp
                        with_reducible rfl
                       rotate_left
                       ·simp only [Act.put,List.setIfInBounds_toArray,List.set_cons_zero,List.set_cons_succ,i64_w,i32_w]
                        rfl
                       refine pure_ (i:=13) (N:=some 95) (v:=?_) (a':=?_) #[true,true,true,true,true,true,true,true,true,true,true,true,false,true,false,false,false,false,false,false,false] rfl rfl (any_of HT_.out (by kernel_rfl)) (fun _ _ _ h=>h) (Or.inl ⟨by rfl,?_⟩) ?_ ?_;rotate_left
                       ·intro w';go_simp
                        with_reducible rfl
                       rotate_left
                       ·simp only [Act.put,List.setIfInBounds_toArray,List.set_cons_zero,List.set_cons_succ,i64_w,i32_w]
                        rfl
                       refine pure_ (i:=14) (N:=some 96) (v:=?_) (a':=?_) #[true,true,true,true,true,true,true,true,true,true,true,true,false,true,true,false,false,false,false,false,false] rfl rfl (any_of HT_.out (by kernel_rfl)) (fun _ _ _ h=>h) (Or.inl ⟨by rfl,?_⟩) ?_ ?_;rotate_left
                       ·intro w';go_simp
                        with_reducible rfl
                       rotate_left
                       ·simp only [Act.put,List.setIfInBounds_toArray,List.set_cons_zero,List.set_cons_succ,i64_w,i32_w]
                        rfl
                       refine pure_ (i:=15) (N:=some 97) (v:=?_) (a':=?_) #[true,true,true,true,true,true,true,true,true,true,true,true,false,true,true,true,false,false,false,false,false] rfl rfl (any_of HT_.out (by kernel_rfl)) (fun _ _ _ h=>h) (Or.inl ⟨by rfl,?_⟩) ?_ ?_;rotate_left
                       ·intro w';go_simp
                        with_reducible rfl
                       rotate_left
                       ·simp only [Act.put,List.setIfInBounds_toArray,List.set_cons_zero,List.set_cons_succ,i64_w,i32_w]
                        rfl
                       refine take_ (i:=12) (N:=some 94) (v:=?_) (a':=?_) #[true,true,true,true,true,true,true,true,true,true,true,true,true,true,true,true,false,false,false,false,false] rfl rfl (take_ofW HT_.out HW_.out (by kernel_rfl)) (fun _ _ _ h=>h) (Or.inl ⟨by rfl,?_⟩) hHeld ?_ ?_;rotate_left
                       ·rintro w' ⟨s0,s1,s2,s3,s4⟩;go_simp
                        with_reducible rfl
                       rotate_left
                       ·simp only [Act.put,List.setIfInBounds_toArray,List.set_cons_zero,List.set_cons_succ,i64_w,i32_w]
                        rfl
                       refine take_ (i:=16) (N:=some 98) (v:=?_) (a':=?_) #[true,true,true,true,true,true,true,true,true,true,true,true,true,true,true,true,true,false,false,false,false] rfl rfl (take_ofW HT_.out HW_.out (by kernel_rfl)) (fun _ _ _ h=>h) (Or.inl ⟨by rfl,?_⟩) hHeld ?_ ?_;rotate_left
                       ·rintro w' ⟨s0,s1,s2,s3,s4⟩;go_simp
                        with_reducible rfl
                       rotate_left
                       ·simp only [Act.put,List.setIfInBounds_toArray,List.set_cons_zero,List.set_cons_succ,i64_w,i32_w]
                        rfl
                       refine one_ (i:=17) (N:=some 99) #[true,true,true,true,true,true,true,true,true,true,true,true,true,true,true,true,true,true,false,false,false] rfl rfl (one_of HT_.out (by kernel_rfl)) (by decide) (fun K hK=>?_);refine goes_ Try.func18 (by kernel_rfl) rfl #[.agg #[.slice A700_0 ((rd_T34 x8_2 x17_4).f0).length c700_0,.bool ((rd_T34 x8_2 x17_4).f1)],.agg #[.slice A701_0 ((rd_T34 x8_2 x16_4).f0).length c701_0,.bool ((rd_T34 x8_2 x16_4).f1)]] (by rfl) rfl rfl (by (try simp only [List.map_toArray,List.map_cons,List.map_nil]);first|done|rfl|(simp only [List.length_drop,List.length_take];rfl)) ?_;with_reducible refine (trivetref01_Cmp.calls k4 _ _ ((rd_T34 x8_2 x17_4).f0) ((rd_T34 x8_2 x17_4).f1) _ _ ((rd_T34 x8_2 x16_4).f0) ((rd_T34 x8_2 x16_4).f1) c0 _ ?side1 ?side2 ?side3 ?side4 o4.out).mono ?_
                       (case side1=>repeat (first|exact (by repeat (first|(with_reducible exact HR700_0.out)|(with_reducible refine Kd.C_alloc ?_ _)|(with_reducible refine Kd.C_drewN ?_ _)|(with_reducible refine Kd.C_drew ?_)|exact HR700_0.out))|(with_reducible refine Kd.C_alloc ?_ _)|(with_reducible refine Kd.C_drewN ?_ _)|(with_reducible refine Kd.C_drew ?_)));(case side2=>exact HC700_0.out);(case side3=>repeat (first|exact (by repeat (first|(with_reducible exact HR701_0.out)|(with_reducible refine Kd.C_alloc ?_ _)|(with_reducible refine Kd.C_drewN ?_ _)|(with_reducible refine Kd.C_drew ?_)|exact HR701_0.out))|(with_reducible refine Kd.C_alloc ?_ _)|(with_reducible refine Kd.C_drewN ?_ _)|(with_reducible refine Kd.C_drew ?_)));(case side4=>exact HC701_0.out);rintro e y8 ⟨rfl,hb⟩;have HS0_:=(hb.cell (World.block_lt_of_cell? _ _ (hHeld.1))).trans (hHeld.1);have HS1_:=(hb.cell (World.block_lt_of_cell? _ _ (hHeld.2.1))).trans (hHeld.2.1);have HS2_:=(hb.cell (World.block_lt_of_cell? _ _ (hHeld.2.2.1))).trans (hHeld.2.2.1);have HS3_:=(hb.cell (World.block_lt_of_cell? _ _ (hHeld.2.2.2.1))).trans (hHeld.2.2.2.1);have HS4_:=(hb.cell (World.block_lt_of_cell? _ _ (hHeld.2.2.2.2))).trans (hHeld.2.2.2.2);refine ⟨_,rfl,?_⟩;replace x:=ka (Kd.R_below (kr x.out) hb);replace s:=ka (Kd.N_below (by (with_reducible repeat (first|apply Kd.N_alloc|apply Kd.N_drewN|apply Kd.N_drew));exact s.out) hb);replace G:=ka (Kd.R_below (kr G.out) hb);replace d:=kvb d hb;replace HL700_0:=ka (Kd.V_below (kv HL700_0.out) hb);replace HL701_0:=ka (Kd.V_below (kv HL701_0.out) hb);replace m:=kbb m hb;replace HR700_0:=ka (Kd.C_below (by repeat (first|(with_reducible exact HR700_0.out)|(with_reducible refine Kd.C_alloc ?_ _)|(with_reducible refine Kd.C_drewN ?_ _)|(with_reducible refine Kd.C_drew ?_)|exact HR700_0.out)) hb);replace HR701_0:=ka (Kd.C_below (by repeat (first|(with_reducible exact HR701_0.out)|(with_reducible refine Kd.C_alloc ?_ _)|(with_reducible refine Kd.C_drewN ?_ _)|(with_reducible refine Kd.C_drew ?_)|exact HR701_0.out)) hb);replace HB:=ka (below_step (kw HB.out) hb);(try clear hb);(try clear hb2);(try clear hk);(try clear hi);refine hK.out _ _ ⟨HS0_,HS1_,HS2_,HS3_,HS4_⟩ (fun hHeld=>?_);clear hK K;refine norm_ (a':=?_) ?_ ?_;rotate_left
                       ·show Act.put _ (some 99) _ = _
                        simp only [Act.put,List.setIfInBounds_toArray,List.set_cons_zero,List.set_cons_succ,i64_w,i32_w]
                        rfl
                       refine pure_ (i:=18) (N:=some 100) (v:=?_) (a':=?_) #[true,true,true,true,true,true,true,true,true,true,true,true,true,true,true,true,true,true,true,false,false] rfl rfl (any_of HT_.out (by kernel_rfl)) (fun _ _ _ h=>h) (Or.inl ⟨by rfl,?_⟩) ?_ ?_;rotate_left
                       ·intro w';go_simp
                        with_reducible rfl
                       rotate_left
                       ·simp only [Act.put,List.setIfInBounds_toArray,List.set_cons_zero,List.set_cons_succ,i64_w,i32_w]
                        rfl
                       refine pure_ (i:=19) (N:=some 101) (v:=?_) (a':=?_) #[true,true,true,true,true,true,true,true,true,true,true,true,true,true,true,true,true,true,true,true,false] rfl rfl (any_of HT_.out (by kernel_rfl)) (fun _ _ _ h=>h) (Or.inl ⟨by rfl,?_⟩) ?_ ?_;rotate_left
                       ·intro w';go_simp
                        with_reducible rfl
                       rotate_left
                       ·simp only [Act.put,List.setIfInBounds_toArray,List.set_cons_zero,List.set_cons_succ,i64_w,i32_w]
                        rfl
                       refine pure_ (i:=20) (N:=some 102) (v:=?_) (a':=?_) #[true,true,true,true,true,true,true,true,true,true,true,true,true,true,true,true,true,true,true,true,true] rfl rfl (any_of HT_.out (by kernel_rfl)) (fun _ _ _ h=>h) (Or.inl ⟨by rfl,?_⟩) ?_ ?_;rotate_left
                       ·intro w';go_simp
                        with_reducible rfl
                       rotate_left
                       ·simp only [Act.put,List.setIfInBounds_toArray,List.set_cons_zero,List.set_cons_succ,i64_w,i32_w]
                        rfl
                       refine done_ (done_of HT_.out (by kernel_rfl)) ?_;try go_wp2
                       go_roundg k4
                       case measure=>have:=HK1.out;have:=HK2.out;have:=HK3.out;have:=HK4.out;omega
                       case rel=>exact ⟨(x17_4),(wrap64 (x17_4 + 1)),(by first|rfl|(simp;done)|(simp [*];done)),(by first|rfl|(simp;done)|(simp [*];done)),H',⟨by have:=HK1.out;have:=HK2.out;have:=HK3.out;have:=HK4.out;omega⟩,⟨kr x.out⟩,⟨by (with_reducible repeat (first|apply Kd.N_alloc|apply Kd.N_drewN|apply Kd.N_drew));exact s.out⟩,⟨kr G.out⟩,⟨kv d.out⟩,⟨by (with_reducible repeat (first|apply kb1|apply kb2|apply kb3));exact m.out⟩,⟨by repeat (first|(with_reducible first|exact HB.out|apply kc1|apply kc2|apply kc3|refine kc4 ?_ b2.out)|exact HB.out)⟩⟩
                      ·rw [if_neg c80] at H
                       have c80b0 : decide (0 < c0) = false:=decide_eq_false c80;clear c80;have H':=ka H;clear H;try go_wp2
                       replace x:=ka (Kd.R_drew x.out);replace s:=ka (Kd.N_drew s.out);replace G:=ka (Kd.R_drew G.out);replace d:=ka (Kd.V_drew d.out);replace m:=ka (blk_drew m.out);replace HB:=ka (below_drew1 HB.out);obtain ⟨v0,v2,m6⟩:=Kd.R_slice G.out;(first|subst m6|(injection m6 with f1_ f2_ f3_;have f4_:=f1_.symm;have f5_:=f3_.symm;clear f1_ f2_ f3_;subst f4_;subst f5_));have p699 : 0≤(x17_4 : Int):=of_decide_eq_true (by first|(with_reducible assumption)|assumption);have q699 : x17_4 < (x15_3.length : Int):=of_decide_eq_true (by first|(with_reducible assumption)|assumption);obtain ⟨ad699,e699,hx699_0⟩:=Kd.at_bool (Kd.R_reads' G.out).2.2 x17_4 p699 q699;(try rw [← Nbq69.out] at hx699_0);cases e699
                       replace p699:=eq_true p699;replace q699:=eq_true q699;obtain ⟨v3,v4,m7⟩:=Kd.N_slice s.out;(first|subst m7|(injection m7 with f1_ f2_ f3_;have f4_:=f1_.symm;have f5_:=f3_.symm;clear f1_ f2_ f3_;subst f4_;subst f5_));have p700 : 0≤(x17_4 : Int):=of_decide_eq_true (by first|(with_reducible assumption)|assumption);have q700 : x17_4 < (x8_2.length : Int):=of_decide_eq_true (by first|(with_reducible assumption)|assumption);obtain ⟨ad700,A700_0,c700_0,e700,hx700_0,hx700_1,hl700_0,hi700_0⟩:=at_T34 (Kd.N_reads' s.out).2.2 x17_4 p700 q700;(try rw [← Nbq69.out] at hx700_1);cases e700
                       obtain ⟨ce700,hce700,hMe700,hcc700⟩:=Kd.N_get s.out z34 x17_4 p700 (by first|exact q700|exact of_decide_eq_true (by first|(with_reducible assumption)|assumption)|(have e_:=(Kd.N_reads' s.out).1;omega));obtain ⟨ua700_0,uc700_0,rfl,ul700_0,ge700_0⟩:=k34_openF hMe700;have hv700_0:=hcc700 0 _ rfl;rw [Nat.add_zero] at hv700_0
                       replace hv700_0:=Option.some.inj (hv700_0.symm.trans hx700_0);injection hv700_0 with hva_ hvn_ hvc_
                       rw [hva_] at ge700_0
                       rw [hvc_] at ul700_0
                       have HL700_0:=ka (show Kd.V (Kd.int .u64) 42 _ w.heap.size _ _ ((rd_T34 x8_2 x17_4).f0) from Kd.V_mk ul700_0 ge700_0);clear hva_ hvn_ hvc_ ge700_0 ul700_0;clear hcc700 hce700;have HR700_0:=ka hi700_0;have HC700_0:=ka hl700_0;clear hi700_0 hl700_0;replace p700:=eq_true p700;replace q700:=eq_true q700;have p701 : 0≤(x16_4 : Int):=of_decide_eq_true (by first|(with_reducible assumption)|assumption);have q701 : x16_4 < (x8_2.length : Int):=of_decide_eq_true (by first|(with_reducible assumption)|assumption);obtain ⟨ad701,A701_0,c701_0,e701,hx701_0,hx701_1,hl701_0,hi701_0⟩:=at_T34 (Kd.N_reads' s.out).2.2 x16_4 p701 q701;(try rw [← Nbq69.out] at hx701_1);obtain rfl : ad700 = ad701:=(by injection e701)
                       obtain ⟨ce701,hce701,hMe701,hcc701⟩:=Kd.N_get s.out z34 x16_4 p701 (by first|exact q701|exact of_decide_eq_true (by first|(with_reducible assumption)|assumption)|(have e_:=(Kd.N_reads' s.out).1;omega));obtain ⟨ua701_0,uc701_0,rfl,ul701_0,ge701_0⟩:=k34_openF hMe701;have hv701_0:=hcc701 0 _ rfl;rw [Nat.add_zero] at hv701_0
                       replace hv701_0:=Option.some.inj (hv701_0.symm.trans hx701_0);injection hv701_0 with hva_ hvn_ hvc_
                       rw [hva_] at ge701_0
                       rw [hvc_] at ul701_0
                       have HL701_0:=ka (show Kd.V (Kd.int .u64) 42 _ w.heap.size _ _ ((rd_T34 x8_2 x16_4).f0) from Kd.V_mk ul701_0 ge701_0);clear hva_ hvn_ hvc_ ge701_0 ul701_0;clear hcc701 hce701;have HR701_0:=ka hi701_0;have HC701_0:=ka hl701_0;clear hi701_0 hl701_0;replace p701:=eq_true p701;replace q701:=eq_true q701;refine start_ (n:=21) (S:=fun w'=>w'.cell? (ad699.add (x17_4).toNat) = some (.bool false)∧w'.cell? (ad700.add ((x17_4).toNat * 2)) = some (.slice A700_0 ((rd_T34 x8_2 x17_4).f0).length c700_0)∧w'.cell? ⟨(ad700.add ((x17_4).toNat * 2)).block,(ad700.add ((x17_4).toNat * 2)).off + 1,none⟩ = some (.bool ((rd_T34 x8_2 x17_4).f1))∧w'.cell? (ad700.add ((x16_4).toNat * 2)) = some (.slice A701_0 ((rd_T34 x8_2 x16_4).f0).length c701_0)∧w'.cell? ⟨(ad700.add ((x16_4).toNat * 2)).block,(ad700.add ((x16_4).toNat * 2)).off + 1,none⟩ = some (.bool ((rd_T34 x8_2 x16_4).f1))) (ds:=[]) #[false,false,false,false,false,false,false,false,false,false,false,false,false,false,false,false,false,false,false,false,false] (by kernel_rfl) rfl rfl ⟨hx699_0,hx700_0,hx700_1,hx701_0,hx701_1⟩ (fun hHeld=>?_);refine with_tabW trivetref03_Shares.tab24 trivetref03_Shares.bits24 (fun HT_ HW_=>?_);generalize wr.drew = y9 at x s G d m HB HL700_0 HL701_0 HR700_0 HR701_0 hx699_0 hx700_0 hx700_1 hx701_0 hx701_1 hHeld ⊢;refine pure_ (i:=0) (N:=some 82) (v:=?_) (a':=?_) #[true,false,false,false,false,false,false,false,false,false,false,false,false,false,false,false,false,false,false,false,false] rfl rfl (any_of HT_.out (by kernel_rfl)) (fun _ _ _ h=>h) (Or.inl ⟨by rfl,?_⟩) ?_ ?_;rotate_left
                       ·intro w';go_simp
                        with_reducible rfl
                       rotate_left
                       ·simp only [Act.put,List.setIfInBounds_toArray,List.set_cons_zero,List.set_cons_succ,i64_w,i32_w]
                        rfl
                       refine pure_ (i:=1) (N:=some 83) (v:=?_) (a':=?_) #[true,true,false,false,false,false,false,false,false,false,false,false,false,false,false,false,false,false,false,false,false] rfl rfl (any_of HT_.out (by kernel_rfl)) (fun _ _ _ h=>h) (Or.inl ⟨by rfl,?_⟩) ?_ ?_;rotate_left
                       ·intro w';go_simp
                        with_reducible rfl
                       rotate_left
                       ·simp only [Act.put,List.setIfInBounds_toArray,List.set_cons_zero,List.set_cons_succ,i64_w,i32_w]
                        rfl
                       refine pure_ (i:=2) (N:=some 84) (v:=?_) (a':=?_) #[true,true,true,false,false,false,false,false,false,false,false,false,false,false,false,false,false,false,false,false,false] rfl rfl (any_of HT_.out (by kernel_rfl)) (fun _ _ _ h=>h) (Or.inl ⟨by rfl,?_⟩) ?_ ?_;rotate_left
                       ·intro w';go_simp
                        with_reducible rfl
                       rotate_left
                       ·simp only [Act.put,List.setIfInBounds_toArray,List.set_cons_zero,List.set_cons_succ,i64_w,i32_w]
                        rfl
                       refine take_ (i:=3) (N:=some 85) (v:=?_) (a':=?_) #[true,true,true,true,false,false,false,false,false,false,false,false,false,false,false,false,false,false,false,false,false] rfl rfl (take_ofW HT_.out HW_.out (by kernel_rfl)) (fun _ _ _ h=>h) (Or.inl ⟨by rfl,?_⟩) hHeld ?_ ?_;rotate_left
                       ·rintro w' ⟨s0,s1,s2,s3,s4⟩;go_simp
                        with_reducible rfl
                       rotate_left
                       ·simp only [Act.put,List.setIfInBounds_toArray,List.set_cons_zero,List.set_cons_succ,i64_w,i32_w]
                        rfl
                       refine pure_ (i:=4) (N:=some 86) (v:=?_) (a':=?_) #[true,true,true,true,true,false,false,false,false,false,false,false,false,false,false,false,false,false,false,false,false] rfl rfl (any_of HT_.out (by kernel_rfl)) (fun _ _ _ h=>h) (Or.inl ⟨by rfl,?_⟩) ?_ ?_;rotate_left
                       ·intro w';go_simp
                        with_reducible rfl
                       rotate_left
                       ·simp only [Act.put,List.setIfInBounds_toArray,List.set_cons_zero,List.set_cons_succ,i64_w,i32_w]
                        rfl
                       refine pure_ (i:=5) (N:=some 87) (v:=?_) (a':=?_) #[true,true,true,true,true,true,false,false,false,false,false,false,false,false,false,false,false,false,false,false,false] rfl rfl (any_of HT_.out (by kernel_rfl)) (fun _ _ _ h=>h) (Or.inl ⟨by rfl,?_⟩) ?_ ?_;rotate_left
                       ·intro w';go_simp
                        with_reducible rfl
                       rotate_left
                       ·simp only [Act.put,List.setIfInBounds_toArray,List.set_cons_zero,List.set_cons_succ,i64_w,i32_w]
                        rfl
                       refine pure_ (i:=6) (N:=some 88) (v:=?_) (a':=?_) #[true,true,true,true,true,true,true,false,false,false,false,false,false,false,false,false,false,false,false,false,false] rfl rfl (any_of HT_.out (by kernel_rfl)) (fun _ _ _ h=>h) (Or.inl ⟨by rfl,?_⟩) ?_ ?_;rotate_left
                       ·intro w';go_simp
                        with_reducible rfl
                       rotate_left
                       ·simp only [Act.put,List.setIfInBounds_toArray,List.set_cons_zero,List.set_cons_succ,i64_w,i32_w]
                        rfl
                       refine pure_ (i:=7) (N:=some 89) (v:=?_) (a':=?_) #[true,true,true,true,true,true,true,true,false,false,false,false,false,false,false,false,false,false,false,false,false] rfl rfl (any_of HT_.out (by kernel_rfl)) (fun _ _ _ h=>h) (Or.inl ⟨by rfl,?_⟩) ?_ ?_;rotate_left
                       ·intro w';go_simp
                        with_reducible rfl
                       rotate_left
                       ·simp only [Act.put,List.setIfInBounds_toArray,List.set_cons_zero,List.set_cons_succ,i64_w,i32_w]
                        rfl
                       refine pure_ (i:=8) (N:=some 90) (v:=?_) (a':=?_) #[true,true,true,true,true,true,true,true,true,false,false,false,false,false,false,false,false,false,false,false,false] rfl rfl (any_of HT_.out (by kernel_rfl)) (fun _ _ _ h=>h) (Or.inl ⟨by rfl,?_⟩) ?_ ?_;rotate_left
                       ·intro w';go_simp
                        with_reducible rfl
                       rotate_left
                       ·simp only [Act.put,List.setIfInBounds_toArray,List.set_cons_zero,List.set_cons_succ,i64_w,i32_w]
                        rfl
                       refine pure_ (i:=9) (N:=some 91) (v:=?_) (a':=?_) #[true,true,true,true,true,true,true,true,true,true,false,false,false,false,false,false,false,false,false,false,false] rfl rfl (any_of HT_.out (by kernel_rfl)) (fun _ _ _ h=>h) (Or.inl ⟨by rfl,?_⟩) ?_ ?_;rotate_left
                       ·intro w';go_simp
                        with_reducible rfl
                       rotate_left
                       ·simp only [Act.put,List.setIfInBounds_toArray,List.set_cons_zero,List.set_cons_succ,i64_w,i32_w]
                        rfl
                       refine pure_ (i:=10) (N:=some 92) (v:=?_) (a':=?_) #[true,true,true,true,true,true,true,true,true,true,true,false,false,false,false,false,false,false,false,false,false] rfl rfl (any_of HT_.out (by kernel_rfl)) (fun _ _ _ h=>h) (Or.inl ⟨by rfl,?_⟩) ?_ ?_;rotate_left
                       ·intro w';go_simp
                        with_reducible rfl
                       rotate_left
                       ·simp only [Act.put,List.setIfInBounds_toArray,List.set_cons_zero,List.set_cons_succ,i64_w,i32_w]
                        rfl
                       refine pure_ (i:=11) (N:=some 93) (v:=?_) (a':=?_) #[true,true,true,true,true,true,true,true,true,true,true,true,false,false,false,false,false,false,false,false,false] rfl rfl (any_of HT_.out (by kernel_rfl)) (fun _ _ _ h=>h) (Or.inl ⟨by rfl,?_⟩) ?_ ?_;rotate_left
                       ·intro w';go_simp
                        with_reducible rfl
                       rotate_left
                       ·simp only [Act.put,List.setIfInBounds_toArray,List.set_cons_zero,List.set_cons_succ,i64_w,i32_w]
                        rfl
                       refine pure_ (i:=13) (N:=some 95) (v:=?_) (a':=?_) #[true,true,true,true,true,true,true,true,true,true,true,true,false,true,false,false,false,false,false,false,false] rfl rfl (any_of HT_.out (by kernel_rfl)) (fun _ _ _ h=>h) (Or.inl ⟨by rfl,?_⟩) ?_ ?_;rotate_left
                       ·intro w';go_simp
                        with_reducible rfl
                       rotate_left
                       ·simp only [Act.put,List.setIfInBounds_toArray,List.set_cons_zero,List.set_cons_succ,i64_w,i32_w]
                        rfl
                       refine pure_ (i:=14) (N:=some 96) (v:=?_) (a':=?_) #[true,true,true,true,true,true,true,true,true,true,true,true,false,true,true,false,false,false,false,false,false] rfl rfl (any_of HT_.out (by kernel_rfl)) (fun _ _ _ h=>h) (Or.inl ⟨by rfl,?_⟩) ?_ ?_;rotate_left
                       ·intro w';go_simp
                        with_reducible rfl
                       rotate_left
                       ·simp only [Act.put,List.setIfInBounds_toArray,List.set_cons_zero,List.set_cons_succ,i64_w,i32_w]
                        rfl
                       refine pure_ (i:=15) (N:=some 97) (v:=?_) (a':=?_) #[true,true,true,true,true,true,true,true,true,true,true,true,false,true,true,true,false,false,false,false,false] rfl rfl (any_of HT_.out (by kernel_rfl)) (fun _ _ _ h=>h) (Or.inl ⟨by rfl,?_⟩) ?_ ?_;rotate_left
                       ·intro w';go_simp
                        with_reducible rfl
                       rotate_left
                       ·simp only [Act.put,List.setIfInBounds_toArray,List.set_cons_zero,List.set_cons_succ,i64_w,i32_w]
                        rfl
                       refine take_ (i:=12) (N:=some 94) (v:=?_) (a':=?_) #[true,true,true,true,true,true,true,true,true,true,true,true,true,true,true,true,false,false,false,false,false] rfl rfl (take_ofW HT_.out HW_.out (by kernel_rfl)) (fun _ _ _ h=>h) (Or.inl ⟨by rfl,?_⟩) hHeld ?_ ?_;rotate_left
                       ·rintro w' ⟨s0,s1,s2,s3,s4⟩;go_simp
                        with_reducible rfl
                       rotate_left
                       ·simp only [Act.put,List.setIfInBounds_toArray,List.set_cons_zero,List.set_cons_succ,i64_w,i32_w]
                        rfl
                       refine take_ (i:=16) (N:=some 98) (v:=?_) (a':=?_) #[true,true,true,true,true,true,true,true,true,true,true,true,true,true,true,true,true,false,false,false,false] rfl rfl (take_ofW HT_.out HW_.out (by kernel_rfl)) (fun _ _ _ h=>h) (Or.inl ⟨by rfl,?_⟩) hHeld ?_ ?_;rotate_left
                       ·rintro w' ⟨s0,s1,s2,s3,s4⟩;go_simp
                        with_reducible rfl
                       rotate_left
                       ·simp only [Act.put,List.setIfInBounds_toArray,List.set_cons_zero,List.set_cons_succ,i64_w,i32_w]
                        rfl
                       refine one_ (i:=17) (N:=some 99) #[true,true,true,true,true,true,true,true,true,true,true,true,true,true,true,true,true,true,false,false,false] rfl rfl (one_of HT_.out (by kernel_rfl)) (by decide) (fun K hK=>?_);refine goes_ Try.func18 (by kernel_rfl) rfl #[.agg #[.slice A700_0 ((rd_T34 x8_2 x17_4).f0).length c700_0,.bool ((rd_T34 x8_2 x17_4).f1)],.agg #[.slice A701_0 ((rd_T34 x8_2 x16_4).f0).length c701_0,.bool ((rd_T34 x8_2 x16_4).f1)]] (by rfl) rfl rfl (by (try simp only [List.map_toArray,List.map_cons,List.map_nil]);first|done|rfl|(simp only [List.length_drop,List.length_take];rfl)) ?_;with_reducible refine (trivetref01_Cmp.calls k4 _ _ ((rd_T34 x8_2 x17_4).f0) ((rd_T34 x8_2 x17_4).f1) _ _ ((rd_T34 x8_2 x16_4).f0) ((rd_T34 x8_2 x16_4).f1) c0 _ ?side1 ?side2 ?side3 ?side4 o4.out).mono ?_
                       (case side1=>repeat (first|exact (by repeat (first|(with_reducible exact HR700_0.out)|(with_reducible refine Kd.C_alloc ?_ _)|(with_reducible refine Kd.C_drewN ?_ _)|(with_reducible refine Kd.C_drew ?_)|exact HR700_0.out))|(with_reducible refine Kd.C_alloc ?_ _)|(with_reducible refine Kd.C_drewN ?_ _)|(with_reducible refine Kd.C_drew ?_)));(case side2=>exact HC700_0.out);(case side3=>repeat (first|exact (by repeat (first|(with_reducible exact HR701_0.out)|(with_reducible refine Kd.C_alloc ?_ _)|(with_reducible refine Kd.C_drewN ?_ _)|(with_reducible refine Kd.C_drew ?_)|exact HR701_0.out))|(with_reducible refine Kd.C_alloc ?_ _)|(with_reducible refine Kd.C_drewN ?_ _)|(with_reducible refine Kd.C_drew ?_)));(case side4=>exact HC701_0.out);rintro e z0 ⟨rfl,hb⟩;have HS0_:=(hb.cell (World.block_lt_of_cell? _ _ (hHeld.1))).trans (hHeld.1);have HS1_:=(hb.cell (World.block_lt_of_cell? _ _ (hHeld.2.1))).trans (hHeld.2.1);have HS2_:=(hb.cell (World.block_lt_of_cell? _ _ (hHeld.2.2.1))).trans (hHeld.2.2.1);have HS3_:=(hb.cell (World.block_lt_of_cell? _ _ (hHeld.2.2.2.1))).trans (hHeld.2.2.2.1);have HS4_:=(hb.cell (World.block_lt_of_cell? _ _ (hHeld.2.2.2.2))).trans (hHeld.2.2.2.2);refine ⟨_,rfl,?_⟩;replace x:=ka (Kd.R_below (kr x.out) hb);replace s:=ka (Kd.N_below (by (with_reducible repeat (first|apply Kd.N_alloc|apply Kd.N_drewN|apply Kd.N_drew));exact s.out) hb);replace G:=ka (Kd.R_below (kr G.out) hb);replace d:=kvb d hb;replace HL700_0:=ka (Kd.V_below (kv HL700_0.out) hb);replace HL701_0:=ka (Kd.V_below (kv HL701_0.out) hb);replace m:=kbb m hb;replace HR700_0:=ka (Kd.C_below (by repeat (first|(with_reducible exact HR700_0.out)|(with_reducible refine Kd.C_alloc ?_ _)|(with_reducible refine Kd.C_drewN ?_ _)|(with_reducible refine Kd.C_drew ?_)|exact HR700_0.out)) hb);replace HR701_0:=ka (Kd.C_below (by repeat (first|(with_reducible exact HR701_0.out)|(with_reducible refine Kd.C_alloc ?_ _)|(with_reducible refine Kd.C_drewN ?_ _)|(with_reducible refine Kd.C_drew ?_)|exact HR701_0.out)) hb);replace HB:=ka (below_step (kw HB.out) hb);(try clear hb);(try clear hb2);(try clear hk);(try clear hi);refine hK.out _ _ ⟨HS0_,HS1_,HS2_,HS3_,HS4_⟩ (fun hHeld=>?_);clear hK K;refine norm_ (a':=?_) ?_ ?_;rotate_left
                       ·show Act.put _ (some 99) _ = _
                        simp only [Act.put,List.setIfInBounds_toArray,List.set_cons_zero,List.set_cons_succ,i64_w,i32_w]
                        rfl
                       refine pure_ (i:=18) (N:=some 100) (v:=?_) (a':=?_) #[true,true,true,true,true,true,true,true,true,true,true,true,true,true,true,true,true,true,true,false,false] rfl rfl (any_of HT_.out (by kernel_rfl)) (fun _ _ _ h=>h) (Or.inl ⟨by rfl,?_⟩) ?_ ?_;rotate_left
                       ·intro w';go_simp
                        with_reducible rfl
                       rotate_left
                       ·simp only [Act.put,List.setIfInBounds_toArray,List.set_cons_zero,List.set_cons_succ,i64_w,i32_w]
                        rfl
                       refine pure_ (i:=19) (N:=some 101) (v:=?_) (a':=?_) #[true,true,true,true,true,true,true,true,true,true,true,true,true,true,true,true,true,true,true,true,false] rfl rfl (any_of HT_.out (by kernel_rfl)) (fun _ _ _ h=>h) (Or.inl ⟨by rfl,?_⟩) ?_ ?_;rotate_left
                       ·intro w';go_simp
                        with_reducible rfl
                       rotate_left
                       ·simp only [Act.put,List.setIfInBounds_toArray,List.set_cons_zero,List.set_cons_succ,i64_w,i32_w]
                        rfl
                       refine pure_ (i:=20) (N:=some 102) (v:=?_) (a':=?_) #[true,true,true,true,true,true,true,true,true,true,true,true,true,true,true,true,true,true,true,true,true] rfl rfl (any_of HT_.out (by kernel_rfl)) (fun _ _ _ h=>h) (Or.inl ⟨by rfl,?_⟩) ?_ ?_;rotate_left
                       ·intro w';go_simp
                        with_reducible rfl
                       rotate_left
                       ·simp only [Act.put,List.setIfInBounds_toArray,List.set_cons_zero,List.set_cons_succ,i64_w,i32_w]
                        rfl
                       refine done_ (done_of HT_.out (by kernel_rfl)) ?_;try go_wp2
                       go_roundg k4
                       case measure=>have:=HK1.out;have:=HK2.out;have:=HK3.out;have:=HK4.out;omega
                       case rel=>exact ⟨(x16_4),(wrap64 (x17_4 + 1)),(by first|rfl|(simp;done)|(simp [*];done)),(by first|rfl|(simp;done)|(simp [*];done)),H',⟨by have:=HK1.out;have:=HK2.out;have:=HK3.out;have:=HK4.out;omega⟩,⟨kr x.out⟩,⟨by (with_reducible repeat (first|apply Kd.N_alloc|apply Kd.N_drewN|apply Kd.N_drew));exact s.out⟩,⟨kr G.out⟩,⟨kv d.out⟩,⟨by (with_reducible repeat (first|apply kb1|apply kb2|apply kb3));exact m.out⟩,⟨by repeat (first|(with_reducible first|exact HB.out|apply kc1|apply kc2|apply kc3|refine kc4 ?_ b2.out)|exact HB.out)⟩⟩
                     ·rw [if_neg c78] at H
                      exact absurd H (by simp)
                    ·rw [if_neg c77] at H
                     exact absurd H (by simp)
                   ·rw [if_neg c76] at H
                    exact absurd H (by simp)
                ·rw [if_neg c68] at H
                 exact absurd H (by simp)
               ·rw [if_neg c67] at H
                exact absurd H (by simp)
              ·rw [if_neg c66] at H
               have c66b0 : decide (x17_4 < (l1.length : Int)) = false:=decide_eq_false c66;clear c66;by_cases c89 : x16_4 < 0
               ·rw [if_pos c89] at H
                have c89b0 : decide (x16_4 < 0) = true:=decide_eq_true c89;clear c89;obtain rfl:=Option.some.inj H;go_wp2
                go_ret
                exact ⟨_,by first|rfl|(simp [errW_none,errW_some] <;> rfl)|(simp [*,errW_none,errW_some] <;> rfl),by (with_reducible repeat (first|apply Kd.R_alloc|apply Kd.R_drewN|apply Kd.R_drew));exact x.out,by repeat (first|(with_reducible first|exact HB.out|apply kc1|apply kc2|apply kc3|refine kc4 ?_ b2.out)|exact HB.out)⟩
               ·rw [if_neg c89] at H
                have c89b0 : decide (x16_4 < 0) = false:=decide_eq_false c89;clear c89;by_cases c90 : 0≤x16_4
                ·rw [if_pos c90] at H
                 have c90b0 : decide (0≤x16_4) = true:=decide_eq_true c90;clear c90;by_cases c91 : x16_4 < (x15_3.length : Int)
                 ·rw [if_pos c91] at H
                  have c91b0 : decide (x16_4 < (x15_3.length : Int)) = true:=decide_eq_true c91;clear c91;obtain ⟨y703,hy703⟩ : ∃ y_ : List Bool,y_ = (x15_3.set (x16_4 : Int).toNat true):=⟨_,rfl⟩
                  replace H : (if x16_4 < (x7_3.length : Int) then (trivetref03_Shares.l2 k4 l1 (x7_3.set (x16_4 : Int).toNat (wrap64 ((rd x7_3 x16_4) + 1))) x8_2 (wrap64 (x9_3 - 1)) y703) else (none)) = some r:=by first|(rw [hy703];with_reducible exact H)|(have H2_:=(Option.bind_some _ _).symm.trans H;rw [hy703];with_reducible exact H2_)|(have H2_:=(Option.bind_some _ _).symm.trans H;with_reducible exact H2_)|with_reducible exact H|(rw [hy703];exact H)|exact H
                  have Ny703:=ka hy703;clear hy703;by_cases c93 : x16_4 < (x7_3.length : Int)
                  ·rw [if_pos c93] at H
                   have c93b0 : decide (x16_4 < (x7_3.length : Int)) = true:=decide_eq_true c93;clear c93;obtain ⟨y705,hy705⟩ : ∃ y_ : List Int,y_ = (x7_3.set (x16_4 : Int).toNat (wrap64 ((rd x7_3 x16_4) + 1))):=⟨_,rfl⟩
                   replace H : (trivetref03_Shares.l2 k4 l1 y705 x8_2 (wrap64 (x9_3 - 1)) y703) = some r:=by first|(rw [hy705];with_reducible exact H)|(have H2_:=(Option.bind_some _ _).symm.trans H;rw [hy705];with_reducible exact H2_)|(have H2_:=(Option.bind_some _ _).symm.trans H;with_reducible exact H2_)|with_reducible exact H|(rw [hy705];exact H)|exact H
                   have Ny705:=ka hy705;clear hy705;have H':=ka H;clear H;have p92 : 0≤(x16_4 : Int):=of_decide_eq_true (by first|(with_reducible assumption)|assumption);have q92 : (x16_4 : Int) < ((x15_3.length : Int) : Int):=of_decide_eq_true (by first|(with_reducible assumption)|assumption);obtain ⟨go92,d7,m8,m9,gl92,cl92,HG92⟩:=Kd.R_form G.out (by omega);(first|cases m8|(injection m8 with ea_ en_ ec_;(first|subst ea_|(injection ea_ with ea_;subst ea_));subst ec_;clear en_));have GB92:=ka m9;have GG92:=ka HG92;clear m9 gl92 HG92;obtain ⟨hx92_0,hf92_0⟩:=Kd.R_celln false G.out (x16_4 : Int) p92 q92;replace p92:=eq_true p92;replace q92:=eq_true q92;have HP95:=Kd.R_putg G.out (x16_4 : Int) true;go_wp2_with (first|((with_reducible refine gate_store (t:=4) (p:=109) rfl ?_);refine store_event (t:=4) (p:=109) (v:=?vo_w96) (w1:=(wr.setCell ⟨go92,(x16_4 : Int).toNat,none⟩ (.bool true))) ?hg ?ho ?hn ?hr ?_;(case ho=>rfl);(case hg=>rfl);(case hn=>rfl);(case hr=>first|(go_simp;done)|(go_simp;rfl));intro h3 hw;have hg : wr.grownBy h3 (some go92):=(by rw [hw];exact HP95.2);have hp_ : Kd.R Kd.bool 4 h3 w.heap.size (fun _=>True) (.slice (some ⟨go92,0,none⟩) x15_3.length d7) y703:=(by rw [hw,Ny703.out];exact HP95.1);clear HP95;replace x:=ka (Kd.R_over' (v:=(.slice (some ⟨go92,0,none⟩) x15_3.length d7)) (kr x.out) (Kd.R_typed G.out) (by decide) hg);replace s:=ka (Kd.N_afterv (v:=(.slice (some ⟨go92,0,none⟩) x15_3.length d7)) (v1:=(.slice (some ⟨go92,0,none⟩) x15_3.length d7)) (ok:=(fun l=>some l≠(u7 : Value).ownBlock∧l≠u)) (by (with_reducible repeat (first|apply Kd.N_alloc|apply Kd.N_drewN|apply Kd.N_drew));exact Kd.N_mono s.out (fun _ hk=>⟨⟨hk.1,hk.2.2⟩,hk.2.1⟩)) hg (.inl rfl));replace d:=ka (Kd.V_afterv (v:=(.slice (some ⟨go92,0,none⟩) x15_3.length d7)) (v1:=(.slice (some ⟨go92,0,none⟩) x15_3.length d7)) (ok:=(fun l=>some l≠(u7 : Value).ownBlock∧some l≠(u8 : Value).ownBlock∧l≠u)) (kv (Kd.V_mono d.out (fun _ hk=>⟨⟨hk.1,⟨hk.2.1,hk.2.2.2⟩⟩,hk.2.2.1⟩))) hg (.inl rfl));replace m:=ka (blk_grown (g:=u) (kz m.out) hg (Kd.R_ne G.out m.out (by decide)));replace G:=ka (hp_);replace HB:=ka ((by rw [hw];exact below_set (HB.out) GB92.out : Below w.heap.size w h3));clear hg hw hp_;obtain ⟨v5,e9,q1⟩:=Kd.R_slice x.out;subst q1;have p704 : 0≤(x16_4 : Int):=of_decide_eq_true (by first|(with_reducible assumption)|assumption);have q704 : x16_4 < (x7_3.length : Int):=of_decide_eq_true (by first|(with_reducible assumption)|assumption);obtain ⟨ad704,e704,hx704_0⟩:=Kd.at_int (Kd.R_reads' x.out).2.2 x16_4 p704 q704;cases e704;replace p704:=eq_true p704;replace q704:=eq_true q704;have p94 : 0≤(x16_4 : Int):=of_decide_eq_true (by first|(with_reducible assumption)|assumption);have q94 : (x16_4 : Int) < ((x7_3.length : Int) : Int):=of_decide_eq_true (by first|(with_reducible assumption)|assumption);obtain ⟨go94,w2,n0,n1,gl94,cl94,HG94⟩:=Kd.R_form x.out (by omega);(first|cases n0|(injection n0 with ea_ en_ ec_;(first|subst ea_|(injection ea_ with ea_;subst ea_));subst ec_;clear en_));have GB94:=ka n1;have GG94:=ka HG94;clear n1 gl94 HG94;(first|simp only [add_plain] at hx704_0|skip);obtain ⟨hx94_0,hf94_0⟩:=Kd.R_celln 0 x.out (x16_4 : Int) p94 q94;replace p94:=eq_true p94;replace q94:=eq_true q94;obtain ⟨hy98_,hz98_⟩:=Kd.R_celln 0 x.out (x16_4 : Int) (of_decide_eq_true (by first|(with_reducible assumption)|assumption)) (of_decide_eq_true (by first|(with_reducible assumption)|assumption));have HP98:=Kd.R_putg x.out (x16_4 : Int) (wrap64 ((rd x7_3 x16_4) + 1)))|((with_reducible refine gate_store (t:=2) (p:=115) rfl ?_);refine store_event (t:=2) (p:=115) (v:=?vo_w99) (w1:=(h3.setCell ⟨go94,(x16_4 : Int).toNat,none⟩ (.int .i64 (wrap64 ((rd x7_3 x16_4) + 1))))) ?hg ?ho ?hn ?hr ?_;(case ho=>rfl);(case hg=>rfl);(case hn=>rfl);(case hr=>first|(go_simp;done)|(go_simp;rfl));intro n2 hw;have hg : h3.grownBy n2 (some go94):=(by rw [hw];exact HP98.2);have hp_ : Kd.R (Kd.int .i64) 2 n2 w.heap.size (fun _=>True) (.slice (some ⟨go94,0,none⟩) x7_3.length e9) y705:=(by rw [hw,Ny705.out];exact HP98.1);clear HP98;replace s:=ka (Kd.N_afterv (v:=(.slice (some ⟨go94,0,none⟩) x7_3.length e9)) (v1:=(.slice (some ⟨go94,0,none⟩) x7_3.length e9)) (ok:=(fun l=>some l≠(.slice (some ⟨go92,0,none⟩) x15_3.length d7 : Value).ownBlock∧l≠u)) (by (with_reducible repeat (first|apply Kd.N_alloc|apply Kd.N_drewN|apply Kd.N_drew));exact Kd.N_mono s.out (fun _ hk=>⟨⟨hk.2,hk.1.2⟩,hk.1.1⟩)) hg (.inl rfl));replace G:=ka (Kd.R_over' (v:=(.slice (some ⟨go94,0,none⟩) x7_3.length e9)) (kr G.out) (Kd.R_typed x.out) (by decide) hg);replace d:=ka (Kd.V_afterv (v:=(.slice (some ⟨go94,0,none⟩) x7_3.length e9)) (v1:=(.slice (some ⟨go94,0,none⟩) x7_3.length e9)) (ok:=(fun l=>some l≠(u8 : Value).ownBlock∧some l≠(.slice (some ⟨go92,0,none⟩) x15_3.length d7 : Value).ownBlock∧l≠u)) (kv (Kd.V_mono d.out (fun _ hk=>⟨⟨hk.1.2.1,⟨hk.2,hk.1.2.2⟩⟩,hk.1.1⟩))) hg (.inl rfl));replace m:=ka (blk_grown (g:=u) (kz m.out) hg (Kd.R_ne x.out m.out (by decide)));replace x:=ka (hp_);replace HB:=ka ((by rw [hw];exact below_set (HB.out) GB94.out : Below w.heap.size w n2));clear hg hw hp_))
                   go_roundg k4
                   case measure=>have:=HK1.out;have:=HK2.out;have:=HK3.out;have:=HK4.out;omega
                   case rel=>exact ⟨(y705),(wrap64 (x9_3 - 1)),(y703),(by first|rfl|(simp;done)|(simp [*];done)),H',⟨by have:=HK1.out;have:=HK2.out;have:=HK3.out;have:=HK4.out;omega⟩,⟨kr x.out⟩,⟨by (with_reducible repeat (first|apply Kd.N_alloc|apply Kd.N_drewN|apply Kd.N_drew));exact Kd.N_mono s.out (fun _ hk=>⟨hk.2,⟨hk.1.1,hk.1.2⟩⟩)⟩,⟨kr G.out⟩,⟨kv (Kd.V_mono d.out (fun _ hk=>⟨hk.2,⟨hk.1.1,⟨hk.1.2.1,hk.1.2.2⟩⟩⟩))⟩,⟨by (with_reducible repeat (first|apply kb1|apply kb2|apply kb3));exact m.out⟩,⟨by repeat (first|(with_reducible first|exact HB.out|apply kc1|apply kc2|apply kc3|refine kc4 ?_ b2.out)|exact HB.out)⟩⟩
                  ·rw [if_neg c93] at H
                   exact absurd H (by simp)
                 ·rw [if_neg c91] at H
                  exact absurd H (by simp)
                ·rw [if_neg c90] at H
                 exact absurd H (by simp)
           ·rw [if_neg c65] at H
            have c65b0 : decide (0 < x9_3) = false:=decide_eq_false c65;clear c65;obtain rfl:=Option.some.inj H;go_wp2
            go_ret
            exact ⟨_,by first|rfl|(simp [errW_none,errW_some] <;> rfl)|(simp [*,errW_none,errW_some] <;> rfl),by (with_reducible repeat (first|apply Kd.R_alloc|apply Kd.R_drewN|apply Kd.R_drew));exact x.out,by repeat (first|(with_reducible first|exact HB.out|apply kc1|apply kc2|apply kc3|refine kc4 ?_ b2.out)|exact HB.out)⟩
        ·rw [if_neg c62] at H
         exact absurd H (by simp)
       ·rw [if_neg c61] at H
        exact absurd H (by simp)

end Go.Proofs.Ytcpmfdagnchlbaa.P
