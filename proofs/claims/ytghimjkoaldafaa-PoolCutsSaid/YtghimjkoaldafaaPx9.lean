-- Written by a program of this session out of the translation of the seat: Lean functions and the proofs that the Go functions come to them.
import Derived.Test.YtghimjkoaldafaaPx0
import Derived.Test.YtghimjkoaldafaaPx6
import Derived.Test.YtghimjkoaldafaaPx7
import Derived.Test.YtghimjkoaldafaaPx8
namespace Go.Proofs.Ytghimjkoaldafaa.P
open Go.RowKit Go.Proofs.YtghimjkoaldafaaW.PrintWords Go.Proofs.YtghimjkoaldafaaW.PrintLast Go.Proofs.YtghimjkoaldafaaW.PrintMore
open Bool renaming true → aa, false → ab
open List renaming setIfInBounds_toArray → ac, set_cons_zero → ad, set_cons_succ → ae, map_toArray → ao, length_drop → ap, length_take → aq, map_cons → aB, map_nil → aD
open Go.Proofs.YtghimjkoaldafaaW.PrintWords renaming blk_cell → af, below_size → ah, below_step → aj, cell_far → ak, blk_below → ay, gate_dst → aA, blk_drew → aG, blk_frozen → aJ, blk_lt → aM, Aside0 → aQ
open Go.Proofs.Ytghimjkoaldafaa.P.trivetref01_norm renaming f → ag, calls → aw, num → ax
open Option renaming bind_eq_some_iff → ai, bind_some → aF
open Go.Proofs.Ytghimjkoaldafaa.P.trivetref01_minus renaming f → al, calls → aL, num → aN
open Go.Proofs.YtghimjkoaldafaaW.PrintWords.Kd renaming R_types → am, V_mono → an, C_below → ar, C_alloc → au, C_drewN → av, C_drew → az, V_lower → aH, V_slice → aI, V_far → aK, V_alloc → aO, V_drewN → aP, V_drew → aR, int → aS
open Option.some renaming injEq → aC
open Nat renaming le_trans → aE
set_option maxHeartbeats 8000000
set_option maxRecDepth 100000
attribute [local go_sem] max2_int min2_int max_two min_two max_three min_three max_four min_four   -- for this text's walks alone
set_option linter.unusedVariables false
set_option linter.unusedSimpArgs false
def trivetref01_Add.f (k : Nat) (l0_0 : List Int) (a0_1 : Bool) (l1_0 : List Int) (a1_1 : Bool) : Option (List Int × Bool):=if (a0_1 == a1_1) = true then ((trivetref01_plus.f k l0_0 l1_0).bind fun a6=>((ag k a6 a0_1).bind fun a3=>(some (a3.1,a3.2)))) else ((trivetref01_less.f k l0_0 l1_0).bind fun b6=>(if b6 = true then ((al k l1_0 l0_0).bind fun X=>((ag k X a1_1).bind fun L=>(some (L.1,L.2)))) else ((al k l0_0 l1_0).bind fun Y=>((ag k Y a0_1).bind fun O=>(some (O.1,O.2))))))
def trivetref01_Add.T2 : Bool × List (List Nat × List Nat):=(true,[([],[]),([0],[0]),([],[]),([2],[2]),([1,3],[1,3]),([],[]),([5],[5]),([4,6,4],[4,6]),([7,7,0,1,2,3,4,5,6,7],[7])])
def trivetref01_Add.B2 : List Nat:=[0,1,0,4,15,0,32,127,255]
theorem trivetref01_Add.tab2 : rtab .any (opsOf Try.f23 2) = trivetref01_Add.T2:=by kernel_rfl
theorem trivetref01_Add.bits2 : waitsOk trivetref01_Add.T2.2 trivetref01_Add.B2 = true:=by kernel_rfl
def trivetref01_Add.T5 : Bool × List (List Nat × List Nat):=(true,[([],[]),([0],[0]),([],[]),([2],[2]),([1,3],[1,3]),([],[]),([5],[5]),([4,6,4],[4,6]),([7,7,0,1,2,3,4,5,6,7],[7])])
def trivetref01_Add.B5 : List Nat:=[0,1,0,4,15,0,32,127,255]
theorem trivetref01_Add.tab5 : rtab .any (opsOf Try.f23 5) = trivetref01_Add.T5:=by kernel_rfl
theorem trivetref01_Add.bits5 : waitsOk trivetref01_Add.T5.2 trivetref01_Add.B5 = true:=by kernel_rfl
def trivetref01_Add.T6 : Bool × List (List Nat × List Nat):=(true,[([],[]),([0],[0]),([],[]),([2],[2]),([1,3],[1,3]),([],[]),([5],[5]),([4,6,4],[4,6]),([7,7,0,1,2,3,4,5,6,7],[7])])
def trivetref01_Add.B6 : List Nat:=[0,1,0,4,15,0,32,127,255]
theorem trivetref01_Add.tab6 : rtab .any (opsOf Try.f23 6) = trivetref01_Add.T6:=by kernel_rfl
theorem trivetref01_Add.bits6 : waitsOk trivetref01_Add.T6.2 trivetref01_Add.B6 = true:=by kernel_rfl
theorem trivetref01_Add.calls (k : Nat) (A0_0 : Option Addr) (c0_0 : Nat) (l0_0 : List Int) (a0_1 : Bool) (A1_0 : Option Addr) (c1_0 : Nat) (l1_0 : List Int) (a1_1 : Bool) (r1 : List Int) (r2 : Bool) (w : World) (hr0_0 : Kd.C (aS .u64) w A0_0 l0_0.length l0_0) (hc0_0 : l0_0.length≤c0_0) (hr1_0 : Kd.C (aS .u64) w A1_0 l1_0.length l1_0) (hc1_0 : l1_0.length≤c1_0) (h : trivetref01_Add.f k l0_0 a0_1 l1_0 a1_1 = some (r1,r2)) :
  Calls Try.prog 23 #[.agg #[.slice A0_0 l0_0.length c0_0,.bool a0_1],.agg #[.slice A1_0 l1_0.length c1_0,.bool a1_1]] w fun e w'=>∃ v0_ : Value,e = .returned (.agg #[v0_,.bool r2])∧Kd.V (aS .u64) 60 w' w.heap.size (fun s=>(w.heap.size≤s)) v0_ r1∧Below w.heap.size w w':=by
 have hu51:=Try.underlying51;have HR0_0:=ka hr0_0;have HC0_0:=ka hc0_0;clear hr0_0 hc0_0;have HR1_0:=ka hr1_0;have HC1_0:=ka hc1_0;clear hr1_0 hc1_0;have HB:=ka (Below.refl w.heap.size w);have H : (if (a0_1 == a1_1) = true then ((trivetref01_plus.f k l0_0 l1_0).bind fun a6=>((ag k a6 a0_1).bind fun a3=>(some (a3.1,a3.2)))) else ((trivetref01_less.f k l0_0 l1_0).bind fun b6=>(if b6 = true then ((al k l1_0 l0_0).bind fun X=>((ag k X a1_1).bind fun L=>(some (L.1,L.2)))) else ((al k l0_0 l1_0).bind fun Y=>((ag k Y a0_1).bind fun O=>(some (O.1,O.2))))))) = some (r1,r2):=h;clear h;by_cases c3 : (a0_1 == a1_1) = true
 ·rw [if_pos c3] at H
  have c3b0 : (a0_1 == a1_1) = true:=c3;(try (have c3b1 : decide (a0_1 = a1_1) = true:=by simpa using c3));(try (have c3b2 : (a0_1 == a1_1) = true:=by simpa using c3));clear c3;replace H:=ai.mp H;obtain ⟨a6,d4,H⟩:=H;replace H : ((ag k a6 a0_1).bind fun a3=>(some (a3.1,a3.2))) = some (r1,r2):=H;have A4:=ka d4;clear d4;replace H:=ai.mp H;obtain ⟨⟨c4,c5⟩,g3,H⟩:=H;replace H : (some (c4,c5)) = some (r1,r2):=H;have A5:=ka g3;clear g3;simp only [aC,Prod.mk.injEq] at H
  obtain ⟨rfl,rfl⟩:=H;go_enter Try.func23,Try.ntmps23
  try go_wp2_with (first|((with_reducible refine aA (N:=2) rfl ?_);refine kx (N:=2) (cs:=#[.slice A0_0 l0_0.length c0_0,.bool a0_1]) (t:=51) ?_;intro q hg w6 hbox hb;have D:=ka (aj (kw HB.out) hb);have E:=ka (hbox);have z:=ka ((by rw [hg];exact (ah (kw HB.out)) : w.heap.size≤q));have u:=z;clear HB;have HB:=D;have b:=E;have d5:=z;have b0:=u;clear D E z u;clear hb hbox hg)|((with_reducible refine aA (N:=3) rfl ?_);refine kx (N:=3) (cs:=#[.slice A1_0 l1_0.length c1_0,.bool a1_1]) (t:=51) ?_;intro r hg w7 hbox hb;have D:=ka (ay (g:=q) (kz b.out) hb);have E:=ka (aj (kw HB.out) hb);have z:=ka (hbox);have u:=ka ((by rw [hg];exact (ah (kw HB.out)) : w.heap.size≤r));have J:=u;have R:=ka ((by rw [hg];exact Nat.ne_of_lt (aM (g:=q) (kz b.out)) : q≠r));have Q:=ka R.out.symm;clear b;clear HB;have b:=D;have HB:=E;have d:=z;have d6:=u;have b1:=J;have T:=R;have W:=Q;clear D E z u J R Q;clear hb hbox hg)|((with_reducible refine aA (N:=4) rfl ?_);refine kx (N:=4) (cs:=#[.slice none 0 0,.bool false]) (t:=51) ?_;intro j hg w8 hbox hb;have D:=ka (ay (g:=q) (kz b.out) hb);have E:=ka (ay (g:=r) (kz d.out) hb);have z:=ka (aj (kw HB.out) hb);have u:=ka (hbox);have J:=ka ((by rw [hg];exact (ah (kw HB.out)) : w.heap.size≤j));have R:=J;have Q:=ka ((by rw [hg];exact Nat.ne_of_lt (aM (g:=q) (kz b.out)) : q≠j));have a8:=ka Q.out.symm;have a9:=ka ((by rw [hg];exact Nat.ne_of_lt (aM (g:=r) (kz d.out)) : r≠j));have b7:=ka a9.out.symm;clear b;clear d;clear HB;have b:=D;have d:=E;have HB:=z;have l:=u;have d7:=J;have b2:=R;have m:=Q;have A:=a8;have o:=a9;have B:=b7;clear D E z u J R Q a8 a9 b7;clear hb hbox hg;have k8:=T.out;have k9:=W.out;have i0:=m.out;have i1:=A.out;have i2:=blkAll2 b.out;have i3:=o.out;have i4:=B.out;have i5:=blkAll2 d.out))
  replace b:=ka (aG b.out);replace d:=ka (aG d.out);replace l:=ka (aG l.out);replace HB:=ka (below_drew1 HB.out);refine start_ (n:=9) (S:=fun w'=>w'.cell? ⟨q,0,none⟩ = some (.slice A0_0 l0_0.length c0_0)∧w'.cell? ⟨q,1,none⟩ = some (.bool a0_1)∧w'.cell? ⟨r,0,none⟩ = some (.slice A1_0 l1_0.length c1_0)∧w'.cell? ⟨r,1,none⟩ = some (.bool a1_1)) (ds:=[]) #[ab,ab,ab,ab,ab,ab,ab,ab,ab] (by kernel_rfl) rfl rfl ⟨(af b.out 0).trans rfl,(af b.out 1).trans rfl,(af d.out 0).trans rfl,(af d.out 1).trans rfl⟩ (fun hHeld=>?_);refine with_tabW trivetref01_Add.tab2 trivetref01_Add.bits2 (fun HT_ HW_=>?_);generalize w8.drew = m2 at b d l HB hHeld ⊢;refine pure_ (i:=0) (N:=some 11) (v:=?_) (a':=?_) #[aa,ab,ab,ab,ab,ab,ab,ab,ab] rfl rfl (any_of HT_.out (by kernel_rfl)) (fun _ _ _ h=>h) (Or.inl ⟨by rfl,?_⟩) ?_ ?_;rotate_left
  ·intro w';go_simp
   with_reducible rfl
  rotate_left
  ·simp only [Act.put,ac,ad,ae,i64_w,i32_w]
   rfl
  refine pure_ (i:=2) (N:=some 13) (v:=?_) (a':=?_) #[aa,ab,aa,ab,ab,ab,ab,ab,ab] rfl rfl (any_of HT_.out (by kernel_rfl)) (fun _ _ _ h=>h) (Or.inl ⟨by rfl,?_⟩) ?_ ?_;rotate_left
  ·intro w';go_simp
   with_reducible rfl
  rotate_left
  ·simp only [Act.put,ac,ad,ae,i64_w,i32_w]
   rfl
  refine pure_ (i:=5) (N:=some 16) (v:=?_) (a':=?_) #[aa,ab,aa,ab,ab,aa,ab,ab,ab] rfl rfl (any_of HT_.out (by kernel_rfl)) (fun _ _ _ h=>h) (Or.inl ⟨by rfl,?_⟩) ?_ ?_;rotate_left
  ·intro w';go_simp
   with_reducible rfl
  rotate_left
  ·simp only [Act.put,ac,ad,ae,i64_w,i32_w]
   rfl
  refine take_ (i:=1) (N:=some 12) (v:=?_) (a':=?_) #[aa,aa,aa,ab,ab,aa,ab,ab,ab] rfl rfl (take_ofW HT_.out HW_.out (by kernel_rfl)) (fun _ _ _ h=>h) (Or.inl ⟨by rfl,?_⟩) hHeld ?_ ?_;rotate_left
  ·rintro w' ⟨s0,s1,s2,s3⟩;go_simp
   with_reducible rfl
  rotate_left
  ·simp only [Act.put,ac,ad,ae,i64_w,i32_w]
   rfl
  refine take_ (i:=3) (N:=some 14) (v:=?_) (a':=?_) #[aa,aa,aa,aa,ab,aa,ab,ab,ab] rfl rfl (take_ofW HT_.out HW_.out (by kernel_rfl)) (fun _ _ _ h=>h) (Or.inl ⟨by rfl,?_⟩) hHeld ?_ ?_;rotate_left
  ·rintro w' ⟨s0,s1,s2,s3⟩;go_simp
   with_reducible rfl
  rotate_left
  ·simp only [Act.put,ac,ad,ae,i64_w,i32_w]
   rfl
  refine take_ (i:=6) (N:=some 17) (v:=?_) (a':=?_) #[aa,aa,aa,aa,ab,aa,aa,ab,ab] rfl rfl (take_ofW HT_.out HW_.out (by kernel_rfl)) (fun _ _ _ h=>h) (Or.inl ⟨by rfl,?_⟩) hHeld ?_ ?_;rotate_left
  ·rintro w' ⟨s0,s1,s2,s3⟩;go_simp
   with_reducible rfl
  rotate_left
  ·simp only [Act.put,ac,ad,ae,i64_w,i32_w]
   rfl
  refine one_ (i:=4) (N:=some 15) #[aa,aa,aa,aa,aa,aa,aa,ab,ab] rfl rfl (one_of HT_.out (by kernel_rfl)) (by decide) (fun K hK=>?_);refine goes_ Try.func40 (by kernel_rfl) rfl #[.slice A0_0 l0_0.length c0_0,.slice A1_0 l1_0.length c1_0] (by rfl) rfl rfl (by (try simp only [ao,aB,aD]);first|done|rfl|(simp only [ap,aq];rfl)) ?_;with_reducible refine (trivetref01_plus.calls k _ _ l0_0 _ _ l1_0 a6 _ ?side1 ?side2 ?side3 ?side4 A4.out).mono ?_
  (case side1=>repeat (first|exact (ar HR0_0.out HB.out)|with_reducible first|refine au ?_ _|refine av ?_ _|refine az ?_));(case side2=>exact HC0_0.out);(case side3=>repeat (first|exact (ar HR1_0.out HB.out)|with_reducible first|refine au ?_ _|refine av ?_ _|refine az ?_));(case side4=>exact HC1_0.out);rintro e m3 ⟨l0,rfl,ho0,hb⟩;refine ⟨_,rfl,?_⟩;have a4:=ka (Kd.R_lower (Kd.R_newM (M:=fun s=>(w.heap.size≤s)) ho0 (ah (kw HB.out)) (fun s h_=>h_)) (ah (kw HB.out)));replace b:=kbb b hb;replace d:=kbb d hb;replace l:=kbb l hb;replace HB:=ka (aj (kw HB.out) hb);(try clear hb ho0);obtain ⟨e2,e3,e4⟩:=Kd.R_slice a4.out;(first|subst e4|(injection e4 with f1_ f2_ f3_;have f4_:=f1_.symm;have f5_:=f3_.symm;clear f1_ f2_ f3_;subst f4_;subst f5_));refine hK.out _ _ ⟨(af b.out 0).trans rfl,(af b.out 1).trans rfl,(af d.out 0).trans rfl,(af d.out 1).trans rfl⟩ (fun hHeld=>?_);clear hK K;refine norm_ (a':=?_) ?_ ?_;rotate_left
  ·show Act.put _ (some 15) _ = _
   simp only [Act.put,ac,ad,ae,i64_w,i32_w]
   rfl
  refine one_ (i:=7) (N:=some 18) #[aa,aa,aa,aa,aa,aa,aa,aa,ab] rfl rfl (one_of HT_.out (by kernel_rfl)) (by decide) (fun K hK=>?_);refine goes_ Try.func39 (by kernel_rfl) rfl #[.slice e2 a6.length e3,.bool a0_1] (by rfl) rfl rfl (by (try simp only [ao,aB,aD]);first|done|rfl|(simp only [ap,aq];rfl)) ?_;with_reducible refine (aw k (fun s=>some s = (.slice e2 a6.length e3 : Value).ownBlock) _ _ a6 a0_1 c4 c5 _ ?side1 A5.out).mono ?_
  (case side1=>exact Kd.R_V (Kd.R_tight rfl (am (am (am (a4.out) b.out (by decide)) d.out (by decide)) l.out (by decide))));rintro e g4 ⟨l1,rfl,ho0,hb⟩;refine ⟨_,rfl,?_⟩;have d8:=ka (aH (an (ok':=fun s=>(w.heap.size≤s)∧s≠q∧s≠r∧s≠j) ho0 (fun s I=>⟨Or.elim I (fun F=>((am (am (am (a4.out) b.out (by decide)) d.out (by decide)) l.out (by decide)).1 s F.symm).1.1.1.1) (fun G=>(aE (ah (kw HB.out)) G)),Or.elim I (fun F=>((am (am (am (a4.out) b.out (by decide)) d.out (by decide)) l.out (by decide)).1 s F.symm).1.1.2) (fun G=>(kf b G)),Or.elim I (fun F=>((am (am (am (a4.out) b.out (by decide)) d.out (by decide)) l.out (by decide)).1 s F.symm).1.2) (fun G=>(kf d G)),Or.elim I (fun F=>((am (am (am (a4.out) b.out (by decide)) d.out (by decide)) l.out (by decide)).1 s F.symm).2) (fun G=>(kf l G))⟩)) (ah (kw HB.out)));replace a4:=ka (Kd.R_below (kr a4.out) hb);replace b:=kbb b hb;replace d:=kbb d hb;replace l:=kbb l hb;replace HB:=ka (aj (kw HB.out) hb);(try clear hb ho0);obtain ⟨e5,e6,e7⟩:=aI d8.out;(first|subst e7|(injection e7 with f1_ f2_ f3_;have f4_:=f1_.symm;have f5_:=f3_.symm;clear f1_ f2_ f3_;subst f4_;subst f5_));refine hK.out _ _ ⟨(af b.out 0).trans rfl,(af b.out 1).trans rfl,(af d.out 0).trans rfl,(af d.out 1).trans rfl⟩ (fun hHeld=>?_);clear hK K;refine norm_ (a':=?_) ?_ ?_;rotate_left
  ·show Act.put _ (some 18) _ = _
   simp only [Act.put,ac,ad,ae,i64_w,i32_w]
   rfl
  refine one_ (i:=8) (N:=none) #[aa,aa,aa,aa,aa,aa,aa,aa,aa] rfl rfl (one_of HT_.out (by kernel_rfl)) (by decide) (fun K hK=>?_);have hs19 : g4.cell? ⟨j,0,none⟩ = some (.slice none 0 0):=(af l.out 0).trans rfl;have hfs19:=aJ l.out 0;have hns19_0:=m.out;have hns19_1:=o.out;have hms19_0:=A.out;have hms19_1:=B.out;have hs20 : g4.cell? ⟨j,1,none⟩ = some (.bool false):=(af l.out 1).trans rfl;have hfs20:=aJ l.out 1;have hns20_0:=m.out;have hns20_1:=o.out;have hms20_0:=A.out;have hms20_1:=B.out;refine skip_ (w1:=?_) (by rfl) rfl ?_ ?_;rotate_left
  ·go_simp
   rfl
  refine hK.out _ _ ⟨((ak (p:=⟨j,_,none⟩) m.out _).trans (((ak (p:=⟨j,_,none⟩) m.out _).trans (hHeld.1)))),((ak (p:=⟨j,_,none⟩) m.out _).trans (((ak (p:=⟨j,_,none⟩) m.out _).trans (hHeld.2.1)))),((ak (p:=⟨j,_,none⟩) o.out _).trans (((ak (p:=⟨j,_,none⟩) o.out _).trans (hHeld.2.2.1)))),((ak (p:=⟨j,_,none⟩) o.out _).trans (((ak (p:=⟨j,_,none⟩) o.out _).trans (hHeld.2.2.2))))⟩ (fun hHeld=>?_);clear hK K;refine done_ (done_of HT_.out (by kernel_rfl)) ?_;try go_wp2
  refine bodyPost_ret (results_cell_row rfl _ _ j 51 #[.slice e5 c4.length e6,.bool c5] (0,0) _ rfl (by (with_reducible repeat (first|apply kb1|apply kb2|apply kb3|apply blkPut2_1|apply blkPut2_0));exact l.out) Try.underlying51 rfl (by kernel_rfl)) rfl ?_;exact ⟨_,by first|rfl|(simp [errW_none,errW_some] <;> rfl)|(simp [*,errW_none,errW_some] <;> rfl),by (with_reducible repeat (first|apply aO|apply aP|apply aR));exact an (aK (p:=⟨j,1,none⟩) (aK (p:=⟨j,0,none⟩) (an d8.out (fun s hk=>(⟨hk,hk.2.2.2⟩ : _∧s≠j))) (fun _ hk=>hk.2) (.slice e5 c4.length e6)) (fun _ hk=>hk.2) (.bool c5)) (fun _ hk=>hk.1.1),by repeat (first|(with_reducible first|exact HB.out|apply kc1|apply kc2|apply kc3|refine kc4 ?_ b0.out|refine kc4 ?_ b1.out|refine kc4 ?_ b2.out)|exact HB.out)⟩
 ·rw [if_neg c3] at H
  have c3b0 : (a0_1 == a1_1) = false:=by simpa using c3
  (try (have c3b1 : decide (a0_1 = a1_1) = false:=by simpa using c3));(try (have c3b2 : (a0_1 == a1_1) = false:=by simpa using c3));(try (have c3b3 : ¬ (a0_1 = a1_1):=by simpa using c3));clear c3;replace H:=ai.mp H;obtain ⟨b6,e8,H⟩:=H;replace H : (if b6 = true then ((al k l1_0 l0_0).bind fun X=>((ag k X a1_1).bind fun L=>(some (L.1,L.2)))) else ((al k l0_0 l1_0).bind fun Y=>((ag k Y a0_1).bind fun O=>(some (O.1,O.2))))) = some (r1,r2):=H;have g5:=ka e8;clear e8;by_cases c22 : b6 = true
  ·subst c22;have H1 : ((al k l1_0 l0_0).bind fun X=>((ag k X a1_1).bind fun L=>(some (L.1,L.2)))) = some (r1,r2):=by rw [if_pos rfl] at H;exact H
   clear H;have H:=H1;clear H1;replace H:=ai.mp H;obtain ⟨X,e9,H⟩:=H;replace H : ((ag k X a1_1).bind fun L=>(some (L.1,L.2))) = some (r1,r2):=H;have h6:=ka e9;clear e9;replace H:=ai.mp H;obtain ⟨⟨c6,c7⟩,f0,H⟩:=H;replace H : (some (c6,c7)) = some (r1,r2):=H;have h7:=ka f0;clear f0;simp only [aC,Prod.mk.injEq] at H
   obtain ⟨rfl,rfl⟩:=H;go_enter Try.func23,Try.ntmps23
   try go_wp2_with (first|((with_reducible refine aA (N:=2) rfl ?_);refine kx (N:=2) (cs:=#[.slice A0_0 l0_0.length c0_0,.bool a0_1]) (t:=51) ?_;intro q hg m4 hbox hb;have D:=ka (aj (kw HB.out) hb);have E:=ka (hbox);have z:=ka ((by rw [hg];exact (ah (kw HB.out)) : w.heap.size≤q));have u:=z;clear HB;have HB:=D;have b:=E;have d5:=z;have b0:=u;clear D E z u;clear hb hbox hg)|((with_reducible refine aA (N:=3) rfl ?_);refine kx (N:=3) (cs:=#[.slice A1_0 l1_0.length c1_0,.bool a1_1]) (t:=51) ?_;intro r hg m5 hbox hb;have D:=ka (ay (g:=q) (kz b.out) hb);have E:=ka (aj (kw HB.out) hb);have z:=ka (hbox);have u:=ka ((by rw [hg];exact (ah (kw HB.out)) : w.heap.size≤r));have J:=u;have R:=ka ((by rw [hg];exact Nat.ne_of_lt (aM (g:=q) (kz b.out)) : q≠r));have Q:=ka R.out.symm;clear b;clear HB;have b:=D;have HB:=E;have d:=z;have d6:=u;have b1:=J;have T:=R;have W:=Q;clear D E z u J R Q;clear hb hbox hg)|((with_reducible refine aA (N:=4) rfl ?_);refine kx (N:=4) (cs:=#[.slice none 0 0,.bool false]) (t:=51) ?_;intro j hg b8 hbox hb;have D:=ka (ay (g:=q) (kz b.out) hb);have E:=ka (ay (g:=r) (kz d.out) hb);have z:=ka (aj (kw HB.out) hb);have u:=ka (hbox);have J:=ka ((by rw [hg];exact (ah (kw HB.out)) : w.heap.size≤j));have R:=J;have Q:=ka ((by rw [hg];exact Nat.ne_of_lt (aM (g:=q) (kz b.out)) : q≠j));have a8:=ka Q.out.symm;have a9:=ka ((by rw [hg];exact Nat.ne_of_lt (aM (g:=r) (kz d.out)) : r≠j));have b7:=ka a9.out.symm;clear b;clear d;clear HB;have b:=D;have d:=E;have HB:=z;have l:=u;have d7:=J;have b2:=R;have m:=Q;have A:=a8;have o:=a9;have B:=b7;clear D E z u J R Q a8 a9 b7;clear hb hbox hg;have i6:=T.out;have i7:=W.out;have i8:=m.out;have i9:=A.out;have j0:=blkAll2 b.out;have j1:=o.out;have j2:=B.out;have j3:=blkAll2 d.out)|((with_reducible refine gate_callee (f:=41) rfl ?_);refine kg (some 23) rfl rfl Try.func41 (by kernel_rfl) rfl #[.slice A0_0 l0_0.length c0_0,.slice A1_0 l1_0.length c1_0] rfl ?_;(with_reducible refine (trivetref01_less.calls k _ _ l0_0 _ _ l1_0 true _ ?side1 ?side2 ?side3 ?side4 g5.out).mono ?_);(case side1=>repeat (first|exact (ar HR0_0.out HB.out)|with_reducible first|refine au ?_ _|refine av ?_ _|refine az ?_));(case side2=>exact HC0_0.out);(case side3=>repeat (first|exact (ar HR1_0.out HB.out)|with_reducible first|refine au ?_ _|refine av ?_ _|refine az ?_));(case side4=>exact HC1_0.out);rintro e w' ⟨rfl,⟨nd,rfl⟩⟩;refine ⟨_,rfl,?_⟩;(try (rw [drewN_self b8];generalize hq_ : World.drewN b8 _ = b8;replace b : aQ (b8.heap[q]? = some (.cells #[.slice A0_0 l0_0.length c0_0,.bool a0_1] 51 (0,0))):=⟨by rw [← hq_];exact (kz b.out)⟩;replace d : aQ (b8.heap[r]? = some (.cells #[.slice A1_0 l1_0.length c1_0,.bool a1_1] 51 (0,0))):=⟨by rw [← hq_];exact (kz d.out)⟩;replace l : aQ (b8.heap[j]? = some (.cells #[.slice none 0 0,.bool false] 51 (0,0))):=⟨by rw [← hq_];exact (kz l.out)⟩;replace HB : aQ (Below w.heap.size w b8):=⟨by rw [← hq_];exact (kw HB.out)⟩;clear hq_))))
   replace b:=ka (aG b.out);replace d:=ka (aG d.out);replace l:=ka (aG l.out);replace HB:=ka (below_drew1 HB.out);refine start_ (n:=9) (S:=fun w'=>w'.cell? ⟨r,0,none⟩ = some (.slice A1_0 l1_0.length c1_0)∧w'.cell? ⟨r,1,none⟩ = some (.bool a1_1)∧w'.cell? ⟨q,0,none⟩ = some (.slice A0_0 l0_0.length c0_0)∧w'.cell? ⟨q,1,none⟩ = some (.bool a0_1)) (ds:=[]) #[ab,ab,ab,ab,ab,ab,ab,ab,ab] (by kernel_rfl) rfl rfl ⟨(af d.out 0).trans rfl,(af d.out 1).trans rfl,(af b.out 0).trans rfl,(af b.out 1).trans rfl⟩ (fun hHeld=>?_);refine with_tabW trivetref01_Add.tab5 trivetref01_Add.bits5 (fun HT_ HW_=>?_);generalize b8.drew = m6 at b d l HB hHeld ⊢;refine pure_ (i:=0) (N:=some 25) (v:=?_) (a':=?_) #[aa,ab,ab,ab,ab,ab,ab,ab,ab] rfl rfl (any_of HT_.out (by kernel_rfl)) (fun _ _ _ h=>h) (Or.inl ⟨by rfl,?_⟩) ?_ ?_;rotate_left
   ·intro w';go_simp
    with_reducible rfl
   rotate_left
   ·simp only [Act.put,ac,ad,ae,i64_w,i32_w]
    rfl
   refine pure_ (i:=2) (N:=some 27) (v:=?_) (a':=?_) #[aa,ab,aa,ab,ab,ab,ab,ab,ab] rfl rfl (any_of HT_.out (by kernel_rfl)) (fun _ _ _ h=>h) (Or.inl ⟨by rfl,?_⟩) ?_ ?_;rotate_left
   ·intro w';go_simp
    with_reducible rfl
   rotate_left
   ·simp only [Act.put,ac,ad,ae,i64_w,i32_w]
    rfl
   refine pure_ (i:=5) (N:=some 30) (v:=?_) (a':=?_) #[aa,ab,aa,ab,ab,aa,ab,ab,ab] rfl rfl (any_of HT_.out (by kernel_rfl)) (fun _ _ _ h=>h) (Or.inl ⟨by rfl,?_⟩) ?_ ?_;rotate_left
   ·intro w';go_simp
    with_reducible rfl
   rotate_left
   ·simp only [Act.put,ac,ad,ae,i64_w,i32_w]
    rfl
   refine take_ (i:=1) (N:=some 26) (v:=?_) (a':=?_) #[aa,aa,aa,ab,ab,aa,ab,ab,ab] rfl rfl (take_ofW HT_.out HW_.out (by kernel_rfl)) (fun _ _ _ h=>h) (Or.inl ⟨by rfl,?_⟩) hHeld ?_ ?_;rotate_left
   ·rintro w' ⟨s0,s1,s2,s3⟩;go_simp
    with_reducible rfl
   rotate_left
   ·simp only [Act.put,ac,ad,ae,i64_w,i32_w]
    rfl
   refine take_ (i:=3) (N:=some 28) (v:=?_) (a':=?_) #[aa,aa,aa,aa,ab,aa,ab,ab,ab] rfl rfl (take_ofW HT_.out HW_.out (by kernel_rfl)) (fun _ _ _ h=>h) (Or.inl ⟨by rfl,?_⟩) hHeld ?_ ?_;rotate_left
   ·rintro w' ⟨s0,s1,s2,s3⟩;go_simp
    with_reducible rfl
   rotate_left
   ·simp only [Act.put,ac,ad,ae,i64_w,i32_w]
    rfl
   refine take_ (i:=6) (N:=some 31) (v:=?_) (a':=?_) #[aa,aa,aa,aa,ab,aa,aa,ab,ab] rfl rfl (take_ofW HT_.out HW_.out (by kernel_rfl)) (fun _ _ _ h=>h) (Or.inl ⟨by rfl,?_⟩) hHeld ?_ ?_;rotate_left
   ·rintro w' ⟨s0,s1,s2,s3⟩;go_simp
    with_reducible rfl
   rotate_left
   ·simp only [Act.put,ac,ad,ae,i64_w,i32_w]
    rfl
   refine one_ (i:=4) (N:=some 29) #[aa,aa,aa,aa,aa,aa,aa,ab,ab] rfl rfl (one_of HT_.out (by kernel_rfl)) (by decide) (fun K hK=>?_);refine goes_ Try.func42 (by kernel_rfl) rfl #[.slice A1_0 l1_0.length c1_0,.slice A0_0 l0_0.length c0_0] (by rfl) rfl rfl (by (try simp only [ao,aB,aD]);first|done|rfl|(simp only [ap,aq];rfl)) ?_;with_reducible refine (aL k _ _ l1_0 _ _ l0_0 X _ ?side1 ?side2 ?side3 ?side4 h6.out).mono ?_
   (case side1=>repeat (first|exact (ar HR1_0.out HB.out)|with_reducible first|refine au ?_ _|refine av ?_ _|refine az ?_));(case side2=>exact HC1_0.out);(case side3=>repeat (first|exact (ar HR0_0.out HB.out)|with_reducible first|refine au ?_ _|refine av ?_ _|refine az ?_));(case side4=>exact HC0_0.out);rintro e m7 ⟨l2,rfl,ho0,hb⟩;refine ⟨_,rfl,?_⟩;have c0:=ka (aH (an (ok':=fun s=>(w.heap.size≤s)∧s≠q∧s≠r∧s≠j) ho0 (fun s I=>⟨(aE (ah (kw HB.out)) I),(kf b I),(kf d I),(kf l I)⟩)) (ah (kw HB.out)));replace b:=kbb b hb;replace d:=kbb d hb;replace l:=kbb l hb;replace HB:=ka (aj (kw HB.out) hb);(try clear hb ho0);obtain ⟨h1,h2,f1⟩:=aI c0.out;(first|subst f1|(injection f1 with f1_ f2_ f3_;have f4_:=f1_.symm;have f5_:=f3_.symm;clear f1_ f2_ f3_;subst f4_;subst f5_));refine hK.out _ _ ⟨(af d.out 0).trans rfl,(af d.out 1).trans rfl,(af b.out 0).trans rfl,(af b.out 1).trans rfl⟩ (fun hHeld=>?_);clear hK K;refine norm_ (a':=?_) ?_ ?_;rotate_left
   ·show Act.put _ (some 29) _ = _
    simp only [Act.put,ac,ad,ae,i64_w,i32_w]
    rfl
   refine one_ (i:=7) (N:=some 32) #[aa,aa,aa,aa,aa,aa,aa,aa,ab] rfl rfl (one_of HT_.out (by kernel_rfl)) (by decide) (fun K hK=>?_);refine goes_ Try.func39 (by kernel_rfl) rfl #[.slice h1 X.length h2,.bool a1_1] (by rfl) rfl rfl (by (try simp only [ao,aB,aD]);first|done|rfl|(simp only [ap,aq];rfl)) ?_;with_reducible refine (aw k (fun s=>((w.heap.size≤s)∧(s≠q∧(s≠r∧s≠j)))) _ _ X a1_1 c6 c7 _ ?side1 h7.out).mono ?_
   (case side1=>exact c0.out);rintro e g6 ⟨l3,rfl,ho0,hb⟩;refine ⟨_,rfl,?_⟩;replace c0:=kvb c0 hb;have d9:=ka (aH (an (ok':=fun s=>(w.heap.size≤s)∧s≠q∧s≠r∧s≠j) ho0 (fun s I=>⟨Or.elim I (fun F=>F.1) (fun G=>(aE (ah (kw HB.out)) G)),Or.elim I (fun F=>F.2.1) (fun G=>(kf b G)),Or.elim I (fun F=>F.2.2.1) (fun G=>(kf d G)),Or.elim I (fun F=>F.2.2.2) (fun G=>(kf l G))⟩)) (ah (kw HB.out)));replace b:=kbb b hb;replace d:=kbb d hb;replace l:=kbb l hb;replace HB:=ka (aj (kw HB.out) hb);(try clear hb ho0);obtain ⟨f2,f3,f4⟩:=aI d9.out;(first|subst f4|(injection f4 with f1_ f2_ f3_;have f4_:=f1_.symm;have f5_:=f3_.symm;clear f1_ f2_ f3_;subst f4_;subst f5_));refine hK.out _ _ ⟨(af d.out 0).trans rfl,(af d.out 1).trans rfl,(af b.out 0).trans rfl,(af b.out 1).trans rfl⟩ (fun hHeld=>?_);clear hK K;refine norm_ (a':=?_) ?_ ?_;rotate_left
   ·show Act.put _ (some 32) _ = _
    simp only [Act.put,ac,ad,ae,i64_w,i32_w]
    rfl
   refine one_ (i:=8) (N:=none) #[aa,aa,aa,aa,aa,aa,aa,aa,aa] rfl rfl (one_of HT_.out (by kernel_rfl)) (by decide) (fun K hK=>?_);have hs38 : g6.cell? ⟨j,0,none⟩ = some (.slice none 0 0):=(af l.out 0).trans rfl;have hfs38:=aJ l.out 0;have hns38_0:=m.out;have hns38_1:=o.out;have hms38_0:=A.out;have hms38_1:=B.out;have hs39 : g6.cell? ⟨j,1,none⟩ = some (.bool false):=(af l.out 1).trans rfl;have hfs39:=aJ l.out 1;have hns39_0:=m.out;have hns39_1:=o.out;have hms39_0:=A.out;have hms39_1:=B.out;refine skip_ (w1:=?_) (by rfl) rfl ?_ ?_;rotate_left
   ·go_simp
    rfl
   refine hK.out _ _ ⟨((ak (p:=⟨j,_,none⟩) o.out _).trans (((ak (p:=⟨j,_,none⟩) o.out _).trans (hHeld.1)))),((ak (p:=⟨j,_,none⟩) o.out _).trans (((ak (p:=⟨j,_,none⟩) o.out _).trans (hHeld.2.1)))),((ak (p:=⟨j,_,none⟩) m.out _).trans (((ak (p:=⟨j,_,none⟩) m.out _).trans (hHeld.2.2.1)))),((ak (p:=⟨j,_,none⟩) m.out _).trans (((ak (p:=⟨j,_,none⟩) m.out _).trans (hHeld.2.2.2))))⟩ (fun hHeld=>?_);clear hK K;refine done_ (done_of HT_.out (by kernel_rfl)) ?_;try go_wp2
   refine bodyPost_ret (results_cell_row rfl _ _ j 51 #[.slice f2 c6.length f3,.bool c7] (0,0) _ rfl (by (with_reducible repeat (first|apply kb1|apply kb2|apply kb3|apply blkPut2_1|apply blkPut2_0));exact l.out) Try.underlying51 rfl (by kernel_rfl)) rfl ?_;exact ⟨_,by first|rfl|(simp [errW_none,errW_some] <;> rfl)|(simp [*,errW_none,errW_some] <;> rfl),by (with_reducible repeat (first|apply aO|apply aP|apply aR));exact an (aK (p:=⟨j,1,none⟩) (aK (p:=⟨j,0,none⟩) (an d9.out (fun s hk=>(⟨hk,hk.2.2.2⟩ : _∧s≠j))) (fun _ hk=>hk.2) (.slice f2 c6.length f3)) (fun _ hk=>hk.2) (.bool c7)) (fun _ hk=>hk.1.1),by repeat (first|(with_reducible first|exact HB.out|apply kc1|apply kc2|apply kc3|refine kc4 ?_ b0.out|refine kc4 ?_ b1.out|refine kc4 ?_ b2.out)|exact HB.out)⟩
  ·replace c22:=Bool.eq_false_iff.mpr c22;subst c22;have H1 : ((al k l0_0 l1_0).bind fun Y=>((ag k Y a0_1).bind fun O=>(some (O.1,O.2)))) = some (r1,r2):=by rw [if_neg (show ¬ (false = true) by decide)] at H;exact H
   clear H;have H:=H1;clear H1;replace H:=ai.mp H;obtain ⟨Y,f5,H⟩:=H;replace H : ((ag k Y a0_1).bind fun O=>(some (O.1,O.2))) = some (r1,r2):=H;have d4:=ka f5;clear f5;replace H:=ai.mp H;obtain ⟨⟨c8,c9⟩,f6,H⟩:=H;replace H : (some (c8,c9)) = some (r1,r2):=H;have h8:=ka f6;clear f6;simp only [aC,Prod.mk.injEq] at H
   obtain ⟨rfl,rfl⟩:=H;go_enter Try.func23,Try.ntmps23
   try go_wp2_with (first|((with_reducible refine aA (N:=2) rfl ?_);refine kx (N:=2) (cs:=#[.slice A0_0 l0_0.length c0_0,.bool a0_1]) (t:=51) ?_;intro q hg m8 hbox hb;have D:=ka (aj (kw HB.out) hb);have E:=ka (hbox);have z:=ka ((by rw [hg];exact (ah (kw HB.out)) : w.heap.size≤q));have u:=z;clear HB;have HB:=D;have b:=E;have d5:=z;have b0:=u;clear D E z u;clear hb hbox hg)|((with_reducible refine aA (N:=3) rfl ?_);refine kx (N:=3) (cs:=#[.slice A1_0 l1_0.length c1_0,.bool a1_1]) (t:=51) ?_;intro r hg m9 hbox hb;have D:=ka (ay (g:=q) (kz b.out) hb);have E:=ka (aj (kw HB.out) hb);have z:=ka (hbox);have u:=ka ((by rw [hg];exact (ah (kw HB.out)) : w.heap.size≤r));have J:=u;have R:=ka ((by rw [hg];exact Nat.ne_of_lt (aM (g:=q) (kz b.out)) : q≠r));have Q:=ka R.out.symm;clear b;clear HB;have b:=D;have HB:=E;have d:=z;have d6:=u;have b1:=J;have T:=R;have W:=Q;clear D E z u J R Q;clear hb hbox hg)|((with_reducible refine aA (N:=4) rfl ?_);refine kx (N:=4) (cs:=#[.slice none 0 0,.bool false]) (t:=51) ?_;intro j hg b9 hbox hb;have D:=ka (ay (g:=q) (kz b.out) hb);have E:=ka (ay (g:=r) (kz d.out) hb);have z:=ka (aj (kw HB.out) hb);have u:=ka (hbox);have J:=ka ((by rw [hg];exact (ah (kw HB.out)) : w.heap.size≤j));have R:=J;have Q:=ka ((by rw [hg];exact Nat.ne_of_lt (aM (g:=q) (kz b.out)) : q≠j));have a8:=ka Q.out.symm;have a9:=ka ((by rw [hg];exact Nat.ne_of_lt (aM (g:=r) (kz d.out)) : r≠j));have b7:=ka a9.out.symm;clear b;clear d;clear HB;have b:=D;have d:=E;have HB:=z;have l:=u;have d7:=J;have b2:=R;have m:=Q;have A:=a8;have o:=a9;have B:=b7;clear D E z u J R Q a8 a9 b7;clear hb hbox hg;have j4:=T.out;have j5:=W.out;have j6:=m.out;have j7:=A.out;have j8:=blkAll2 b.out;have j9:=o.out;have k0:=B.out;have k1:=blkAll2 d.out)|((with_reducible refine gate_callee (f:=41) rfl ?_);refine kg (some 23) rfl rfl Try.func41 (by kernel_rfl) rfl #[.slice A0_0 l0_0.length c0_0,.slice A1_0 l1_0.length c1_0] rfl ?_;(with_reducible refine (trivetref01_less.calls k _ _ l0_0 _ _ l1_0 false _ ?side1 ?side2 ?side3 ?side4 g5.out).mono ?_);(case side1=>repeat (first|exact (ar HR0_0.out HB.out)|with_reducible first|refine au ?_ _|refine av ?_ _|refine az ?_));(case side2=>exact HC0_0.out);(case side3=>repeat (first|exact (ar HR1_0.out HB.out)|with_reducible first|refine au ?_ _|refine av ?_ _|refine az ?_));(case side4=>exact HC1_0.out);rintro e w' ⟨rfl,⟨nd,rfl⟩⟩;refine ⟨_,rfl,?_⟩;(try (rw [drewN_self b9];generalize hq_ : World.drewN b9 _ = b9;replace b : aQ (b9.heap[q]? = some (.cells #[.slice A0_0 l0_0.length c0_0,.bool a0_1] 51 (0,0))):=⟨by rw [← hq_];exact (kz b.out)⟩;replace d : aQ (b9.heap[r]? = some (.cells #[.slice A1_0 l1_0.length c1_0,.bool a1_1] 51 (0,0))):=⟨by rw [← hq_];exact (kz d.out)⟩;replace l : aQ (b9.heap[j]? = some (.cells #[.slice none 0 0,.bool false] 51 (0,0))):=⟨by rw [← hq_];exact (kz l.out)⟩;replace HB : aQ (Below w.heap.size w b9):=⟨by rw [← hq_];exact (kw HB.out)⟩;clear hq_))))
   replace b:=ka (aG b.out);replace d:=ka (aG d.out);replace l:=ka (aG l.out);replace HB:=ka (below_drew1 HB.out);refine start_ (n:=9) (S:=fun w'=>w'.cell? ⟨q,0,none⟩ = some (.slice A0_0 l0_0.length c0_0)∧w'.cell? ⟨q,1,none⟩ = some (.bool a0_1)∧w'.cell? ⟨r,0,none⟩ = some (.slice A1_0 l1_0.length c1_0)∧w'.cell? ⟨r,1,none⟩ = some (.bool a1_1)) (ds:=[]) #[ab,ab,ab,ab,ab,ab,ab,ab,ab] (by kernel_rfl) rfl rfl ⟨(af b.out 0).trans rfl,(af b.out 1).trans rfl,(af d.out 0).trans rfl,(af d.out 1).trans rfl⟩ (fun hHeld=>?_);refine with_tabW trivetref01_Add.tab6 trivetref01_Add.bits6 (fun HT_ HW_=>?_);generalize b9.drew = n0 at b d l HB hHeld ⊢;refine pure_ (i:=0) (N:=some 33) (v:=?_) (a':=?_) #[aa,ab,ab,ab,ab,ab,ab,ab,ab] rfl rfl (any_of HT_.out (by kernel_rfl)) (fun _ _ _ h=>h) (Or.inl ⟨by rfl,?_⟩) ?_ ?_;rotate_left
   ·intro w';go_simp
    with_reducible rfl
   rotate_left
   ·simp only [Act.put,ac,ad,ae,i64_w,i32_w]
    rfl
   refine pure_ (i:=2) (N:=some 35) (v:=?_) (a':=?_) #[aa,ab,aa,ab,ab,ab,ab,ab,ab] rfl rfl (any_of HT_.out (by kernel_rfl)) (fun _ _ _ h=>h) (Or.inl ⟨by rfl,?_⟩) ?_ ?_;rotate_left
   ·intro w';go_simp
    with_reducible rfl
   rotate_left
   ·simp only [Act.put,ac,ad,ae,i64_w,i32_w]
    rfl
   refine pure_ (i:=5) (N:=some 38) (v:=?_) (a':=?_) #[aa,ab,aa,ab,ab,aa,ab,ab,ab] rfl rfl (any_of HT_.out (by kernel_rfl)) (fun _ _ _ h=>h) (Or.inl ⟨by rfl,?_⟩) ?_ ?_;rotate_left
   ·intro w';go_simp
    with_reducible rfl
   rotate_left
   ·simp only [Act.put,ac,ad,ae,i64_w,i32_w]
    rfl
   refine take_ (i:=1) (N:=some 34) (v:=?_) (a':=?_) #[aa,aa,aa,ab,ab,aa,ab,ab,ab] rfl rfl (take_ofW HT_.out HW_.out (by kernel_rfl)) (fun _ _ _ h=>h) (Or.inl ⟨by rfl,?_⟩) hHeld ?_ ?_;rotate_left
   ·rintro w' ⟨s0,s1,s2,s3⟩;go_simp
    with_reducible rfl
   rotate_left
   ·simp only [Act.put,ac,ad,ae,i64_w,i32_w]
    rfl
   refine take_ (i:=3) (N:=some 36) (v:=?_) (a':=?_) #[aa,aa,aa,aa,ab,aa,ab,ab,ab] rfl rfl (take_ofW HT_.out HW_.out (by kernel_rfl)) (fun _ _ _ h=>h) (Or.inl ⟨by rfl,?_⟩) hHeld ?_ ?_;rotate_left
   ·rintro w' ⟨s0,s1,s2,s3⟩;go_simp
    with_reducible rfl
   rotate_left
   ·simp only [Act.put,ac,ad,ae,i64_w,i32_w]
    rfl
   refine take_ (i:=6) (N:=some 39) (v:=?_) (a':=?_) #[aa,aa,aa,aa,ab,aa,aa,ab,ab] rfl rfl (take_ofW HT_.out HW_.out (by kernel_rfl)) (fun _ _ _ h=>h) (Or.inl ⟨by rfl,?_⟩) hHeld ?_ ?_;rotate_left
   ·rintro w' ⟨s0,s1,s2,s3⟩;go_simp
    with_reducible rfl
   rotate_left
   ·simp only [Act.put,ac,ad,ae,i64_w,i32_w]
    rfl
   refine one_ (i:=4) (N:=some 37) #[aa,aa,aa,aa,aa,aa,aa,ab,ab] rfl rfl (one_of HT_.out (by kernel_rfl)) (by decide) (fun K hK=>?_);refine goes_ Try.func42 (by kernel_rfl) rfl #[.slice A0_0 l0_0.length c0_0,.slice A1_0 l1_0.length c1_0] (by rfl) rfl rfl (by (try simp only [ao,aB,aD]);first|done|rfl|(simp only [ap,aq];rfl)) ?_;with_reducible refine (aL k _ _ l0_0 _ _ l1_0 Y _ ?side1 ?side2 ?side3 ?side4 d4.out).mono ?_
   (case side1=>repeat (first|exact (ar HR0_0.out HB.out)|with_reducible first|refine au ?_ _|refine av ?_ _|refine az ?_));(case side2=>exact HC0_0.out);(case side3=>repeat (first|exact (ar HR1_0.out HB.out)|with_reducible first|refine au ?_ _|refine av ?_ _|refine az ?_));(case side4=>exact HC1_0.out);rintro e n1 ⟨l4,rfl,ho0,hb⟩;refine ⟨_,rfl,?_⟩;have c1:=ka (aH (an (ok':=fun s=>(w.heap.size≤s)∧s≠q∧s≠r∧s≠j) ho0 (fun s I=>⟨(aE (ah (kw HB.out)) I),(kf b I),(kf d I),(kf l I)⟩)) (ah (kw HB.out)));replace b:=kbb b hb;replace d:=kbb d hb;replace l:=kbb l hb;replace HB:=ka (aj (kw HB.out) hb);(try clear hb ho0);obtain ⟨h3,h4,f7⟩:=aI c1.out;(first|subst f7|(injection f7 with f1_ f2_ f3_;have f4_:=f1_.symm;have f5_:=f3_.symm;clear f1_ f2_ f3_;subst f4_;subst f5_));refine hK.out _ _ ⟨(af b.out 0).trans rfl,(af b.out 1).trans rfl,(af d.out 0).trans rfl,(af d.out 1).trans rfl⟩ (fun hHeld=>?_);clear hK K;refine norm_ (a':=?_) ?_ ?_;rotate_left
   ·show Act.put _ (some 37) _ = _
    simp only [Act.put,ac,ad,ae,i64_w,i32_w]
    rfl
   refine one_ (i:=7) (N:=some 40) #[aa,aa,aa,aa,aa,aa,aa,aa,ab] rfl rfl (one_of HT_.out (by kernel_rfl)) (by decide) (fun K hK=>?_);refine goes_ Try.func39 (by kernel_rfl) rfl #[.slice h3 Y.length h4,.bool a0_1] (by rfl) rfl rfl (by (try simp only [ao,aB,aD]);first|done|rfl|(simp only [ap,aq];rfl)) ?_;with_reducible refine (aw k (fun s=>((w.heap.size≤s)∧(s≠q∧(s≠r∧s≠j)))) _ _ Y a0_1 c8 c9 _ ?side1 h8.out).mono ?_
   (case side1=>exact c1.out);rintro e g7 ⟨l5,rfl,ho0,hb⟩;refine ⟨_,rfl,?_⟩;replace c1:=kvb c1 hb;have e0:=ka (aH (an (ok':=fun s=>(w.heap.size≤s)∧s≠q∧s≠r∧s≠j) ho0 (fun s I=>⟨Or.elim I (fun F=>F.1) (fun G=>(aE (ah (kw HB.out)) G)),Or.elim I (fun F=>F.2.1) (fun G=>(kf b G)),Or.elim I (fun F=>F.2.2.1) (fun G=>(kf d G)),Or.elim I (fun F=>F.2.2.2) (fun G=>(kf l G))⟩)) (ah (kw HB.out)));replace b:=kbb b hb;replace d:=kbb d hb;replace l:=kbb l hb;replace HB:=ka (aj (kw HB.out) hb);(try clear hb ho0);obtain ⟨f8,f9,g0⟩:=aI e0.out;(first|subst g0|(injection g0 with f1_ f2_ f3_;have f4_:=f1_.symm;have f5_:=f3_.symm;clear f1_ f2_ f3_;subst f4_;subst f5_));refine hK.out _ _ ⟨(af b.out 0).trans rfl,(af b.out 1).trans rfl,(af d.out 0).trans rfl,(af d.out 1).trans rfl⟩ (fun hHeld=>?_);clear hK K;refine norm_ (a':=?_) ?_ ?_;rotate_left
   ·show Act.put _ (some 40) _ = _
    simp only [Act.put,ac,ad,ae,i64_w,i32_w]
    rfl
   refine one_ (i:=8) (N:=none) #[aa,aa,aa,aa,aa,aa,aa,aa,aa] rfl rfl (one_of HT_.out (by kernel_rfl)) (by decide) (fun K hK=>?_);have hs55 : g7.cell? ⟨j,0,none⟩ = some (.slice none 0 0):=(af l.out 0).trans rfl;have hfs55:=aJ l.out 0;have hns55_0:=m.out;have hns55_1:=o.out;have hms55_0:=A.out;have hms55_1:=B.out;have hs56 : g7.cell? ⟨j,1,none⟩ = some (.bool false):=(af l.out 1).trans rfl;have hfs56:=aJ l.out 1;have hns56_0:=m.out;have hns56_1:=o.out;have hms56_0:=A.out;have hms56_1:=B.out;refine skip_ (w1:=?_) (by rfl) rfl ?_ ?_;rotate_left
   ·go_simp
    rfl
   refine hK.out _ _ ⟨((ak (p:=⟨j,_,none⟩) m.out _).trans (((ak (p:=⟨j,_,none⟩) m.out _).trans (hHeld.1)))),((ak (p:=⟨j,_,none⟩) m.out _).trans (((ak (p:=⟨j,_,none⟩) m.out _).trans (hHeld.2.1)))),((ak (p:=⟨j,_,none⟩) o.out _).trans (((ak (p:=⟨j,_,none⟩) o.out _).trans (hHeld.2.2.1)))),((ak (p:=⟨j,_,none⟩) o.out _).trans (((ak (p:=⟨j,_,none⟩) o.out _).trans (hHeld.2.2.2))))⟩ (fun hHeld=>?_);clear hK K;refine done_ (done_of HT_.out (by kernel_rfl)) ?_;try go_wp2
   refine bodyPost_ret (results_cell_row rfl _ _ j 51 #[.slice f8 c8.length f9,.bool c9] (0,0) _ rfl (by (with_reducible repeat (first|apply kb1|apply kb2|apply kb3|apply blkPut2_1|apply blkPut2_0));exact l.out) Try.underlying51 rfl (by kernel_rfl)) rfl ?_;exact ⟨_,by first|rfl|(simp [errW_none,errW_some] <;> rfl)|(simp [*,errW_none,errW_some] <;> rfl),by (with_reducible repeat (first|apply aO|apply aP|apply aR));exact an (aK (p:=⟨j,1,none⟩) (aK (p:=⟨j,0,none⟩) (an e0.out (fun s hk=>(⟨hk,hk.2.2.2⟩ : _∧s≠j))) (fun _ hk=>hk.2) (.slice f8 c8.length f9)) (fun _ hk=>hk.2) (.bool c9)) (fun _ hk=>hk.1.1),by repeat (first|(with_reducible first|exact HB.out|apply kc1|apply kc2|apply kc3|refine kc4 ?_ b0.out|refine kc4 ?_ b1.out|refine kc4 ?_ b2.out)|exact HB.out)⟩
theorem trivetref01_Add.num (k : Nat) (x y : Int) (hx : M.abs x < 65536 ^ 64) (hy : M.abs y < 65536 ^ 64) (hk : 300≤k) : trivetref01_Add.f k (U.num x).1 (U.num x).2 (U.num y).1 (U.num y).2 = some (U.num (x + y)):=by
 have lx:=U.len_dig 64 _ hx;have ly:=U.len_dig 64 _ hy;have x0:=U.abs_nonneg x;have y0:=U.abs_nonneg y;have vx:=U.val_dig x0;have vy:=U.val_dig y0;have a1 : M.abs x = if x < 0 then -x else x:=rfl;have a2 : M.abs y = if y < 0 then -y else y:=rfl;show trivetref01_Add.f k (U.dig (M.abs x)) (decide (x < 0)) (U.dig (M.abs y)) (decide (y < 0)) = _
 unfold trivetref01_Add.f
 by_cases h : (decide (x < 0) == decide (y < 0)) = true
 ·rw [if_pos h]
  obtain ⟨out,o1,o2,o3,o4⟩:=trivetref01_plus.num k (U.dig (M.abs x)) (U.dig (M.abs y)) (U.dig_dg _) (U.dig_dg _) (by omega) (by omega) (by omega);rw [o1,aF,ax k out (decide (x < 0)) (x + y) o2 (by omega) (by omega)]
  ·rfl
  ·rw [o3,vx,vy,a1,a2]
   by_cases c : x < 0
   ·have c2 : y < 0:=by simpa [c] using h
    simp only [decide_eq_true c,if_true,if_pos c,if_pos c2];omega
   ·have c2 : ¬ y < 0:=by simpa [c] using h
    simp only [decide_eq_false c,if_neg c,if_neg c2];simp
 ·rw [if_neg h,trivetref01_less.num k _ _ x0 y0 (by omega) (by omega) (by omega),aF]
  have hs : (x < 0∧¬ y < 0)∨(¬ x < 0∧y < 0):=by
   by_cases c : x < 0 <;> by_cases c2 : y < 0 <;> simp [c,c2] at h ⊢
  by_cases hl : M.abs x < M.abs y
  ·rw [decide_eq_true hl,if_pos rfl,aN k _ _ x0 (by omega) (by omega) (by omega),aF,ax k _ (decide (y < 0)) (x + y) (U.dig_dg _)]
   ·rfl
   ·have:=U.len_dig 64 (M.abs y - M.abs x) (by omega);omega
   ·have:=U.len_dig 64 (M.abs y - M.abs x) (by omega);omega
   ·rw [U.val_dig (by omega),a1,a2]
    rcases hs with ⟨c,c2⟩|⟨c,c2⟩
    ·simp [c,c2];omega
    ·simp only [decide_eq_true c2,if_neg c,if_pos c2,if_true];omega
  ·rw [decide_eq_false hl,if_neg (by decide),aN k _ _ y0 (by omega) (by omega) (by omega),aF,ax k _ (decide (x < 0)) (x + y) (U.dig_dg _)]
   ·rfl
   ·have:=U.len_dig 64 (M.abs x - M.abs y) (by omega);omega
   ·have:=U.len_dig 64 (M.abs x - M.abs y) (by omega);omega
   ·rw [U.val_dig (by omega),a1,a2]
    rcases hs with ⟨c,c2⟩|⟨c,c2⟩
    ·simp only [decide_eq_true c,if_pos c,if_neg c2,if_true];omega
    ·simp only [decide_eq_false c,if_neg c,if_pos c2];simp <;> omega
def trivetref01_Neg.f (k : Nat) (l0_0 : List Int) (a0_1 : Bool) : Option (List Int × Bool):=(ag k l0_0 (!a0_1)).bind fun b3=>(some (b3.1,b3.2))
theorem trivetref01_Neg.calls (k : Nat) (b4 : Nat→Prop) (A0_0 : Option Addr) (c0_0 : Nat) (l0_0 : List Int) (a0_1 : Bool) (r1 : List Int) (r2 : Bool) (w : World) (hs0_0 : Kd.V (aS .u64) 60 w w.heap.size (fun s=>b4 s) (.slice A0_0 l0_0.length c0_0) l0_0) (h : trivetref01_Neg.f k l0_0 a0_1 = some (r1,r2)) :
  Calls Try.prog 28 #[.agg #[.slice A0_0 l0_0.length c0_0,.bool a0_1]] w fun e w'=>∃ v0_ : Value,e = .returned (.agg #[v0_,.bool r2])∧Kd.V (aS .u64) 60 w' w.heap.size (fun s=>(b4 s∨w.heap.size≤s)) v0_ r1∧Below w.heap.size w w':=by
 have hu51:=Try.underlying51;have Z:=ka (show Kd.V (aS .u64) 60 w w.heap.size (fun s=>(b4 s∨w.heap.size≤s)) (.slice A0_0 l0_0.length c0_0) l0_0 from an hs0_0 (fun s hk=>.inl hk));have HB:=ka (Below.refl w.heap.size w);have H : ((ag k l0_0 (!a0_1)).bind fun b3=>(some (b3.1,b3.2))) = some (r1,r2):=h;clear h;replace H:=ai.mp H;obtain ⟨⟨d0,d1⟩,g8,H⟩:=H;replace H : (some (d0,d1)) = some (r1,r2):=H;have A2:=ka g8;clear g8;simp only [aC,Prod.mk.injEq] at H
 obtain ⟨rfl,rfl⟩:=H;go_enter Try.func28,Try.ntmps28
 go_wp2_with (first|((with_reducible refine aA (N:=1) rfl ?_);refine kx (N:=1) (cs:=#[.slice A0_0 l0_0.length c0_0,.bool a0_1]) (t:=51) ?_;intro a7 hg w3 hbox hb;have D:=ka (Kd.V_below (Kd.V_elderB (kv Z.out) a7 (Nat.le_of_eq hg.symm)) hb);have E:=ka (aj (kw HB.out) hb);have z:=ka (hbox);have u:=ka ((by rw [hg];exact (ah (kw HB.out)) : w.heap.size≤a7));have J:=u;clear Z;clear HB;have Z:=D;have HB:=E;have a5:=z;have k2:=u;have g1:=J;clear D E z u J;clear hb hbox hg)|((with_reducible refine aA (N:=2) rfl ?_);refine kx (N:=2) (cs:=#[.slice none 0 0,.bool false]) (t:=51) ?_;intro a0 hg w4 hbox hb;have D:=ka (Kd.V_below (Kd.V_elderB (kv Z.out) a0 (Nat.le_of_eq hg.symm)) hb);have E:=ka (ay (g:=a7) (kz a5.out) hb);have z:=ka (aj (kw HB.out) hb);have u:=ka (hbox);have J:=ka ((by rw [hg];exact (ah (kw HB.out)) : w.heap.size≤a0));have R:=J;have Q:=ka ((by rw [hg];exact Nat.ne_of_lt (aM (g:=a7) (kz a5.out)) : a7≠a0));have a8:=ka Q.out.symm;clear Z;clear a5;clear HB;have Z:=D;have a5:=E;have HB:=z;have b5:=u;have k3:=J;have g2:=R;have d2:=Q;have d3:=a8;clear D E z u J R Q a8;clear hb hbox hg;have l7:=d2.out;have l8:=d3.out;have l9:=blkAll2 a5.out)|((with_reducible refine gate_callee (f:=39) rfl ?_);refine kg (some 8) rfl rfl Try.func39 (by kernel_rfl) rfl #[.slice A0_0 l0_0.length c0_0,.bool (!a0_1)] rfl ?_;(with_reducible refine (aw k (fun s=>(((b4 s∨w.heap.size≤s)∧s≠a7)∧s≠a0)) _ _ l0_0 (!a0_1) d0 d1 _ ?side1 A2.out).mono ?_);(case side1=>exact Z.out);rintro e w7 ⟨m0,rfl,ho0,hb⟩;refine ⟨_,rfl,?_⟩;replace Z:=kvb Z hb;have e1:=ka (aH (an (ok':=fun s=>(b4 s∨w.heap.size≤s)∧s≠a7∧s≠a0) ho0 (fun s I=>⟨Or.elim I (fun F=>F.1.1) (fun G=>(.inr (aE (ah (kw HB.out)) G))),Or.elim I (fun F=>F.1.2) (fun G=>(kf a5 G)),Or.elim I (fun F=>F.2) (fun G=>(kf b5 G))⟩)) (ah (kw HB.out)));replace a5:=kbb a5 hb;replace b5:=kbb b5 hb;replace HB:=ka (aj (kw HB.out) hb);(try clear hb ho0);obtain ⟨g9,h0,h9⟩:=aI e1.out;subst h9;have m1:=blkAll2 b5.out))
 refine bodyPost_ret (results_cell_row rfl _ _ a0 51 #[.slice g9 d0.length h0,.bool d1] (0,0) _ rfl (by (with_reducible repeat (first|apply kb1|apply kb2|apply kb3|apply blkPut2_1|apply blkPut2_0));exact b5.out) Try.underlying51 rfl (by kernel_rfl)) rfl ?_;exact ⟨_,by first|rfl|(simp [errW_none,errW_some] <;> rfl)|(simp [*,errW_none,errW_some] <;> rfl),by (with_reducible repeat (first|apply aO|apply aP|apply aR));exact an (aK (p:=⟨a0,1,none⟩) (aK (p:=⟨a0,0,none⟩) (an e1.out (fun s hk=>(⟨hk,hk.2.2⟩ : _∧s≠a0))) (fun _ hk=>hk.2) (.slice g9 d0.length h0)) (fun _ hk=>hk.2) (.bool d1)) (fun _ hk=>hk.1.1),by repeat (first|(with_reducible first|exact HB.out|apply kc1|apply kc2|apply kc3|refine kc4 ?_ g1.out|refine kc4 ?_ g2.out)|exact HB.out)⟩
theorem trivetref01_Neg.num (k : Nat) (x : Int) (hx : M.abs x < 65536 ^ 64) (hk : 300≤k) : trivetref01_Neg.f k (U.num x).1 (U.num x).2 = some (U.num (-x)):=by
 have lx:=U.len_dig 64 _ hx;have x0:=U.abs_nonneg x;have vx:=U.val_dig x0;show trivetref01_Neg.f k (U.dig (M.abs x)) (decide (x < 0)) = _
 unfold trivetref01_Neg.f
 rw [ax k _ (!decide (x < 0)) (-x) (U.dig_dg _) (by omega) (by omega)]
 ·rfl
 ·rw [vx]
  unfold M.abs
  by_cases c : x < 0
  ·simp [c]
  ·simp [c]
end Go.Proofs.Ytghimjkoaldafaa.P
